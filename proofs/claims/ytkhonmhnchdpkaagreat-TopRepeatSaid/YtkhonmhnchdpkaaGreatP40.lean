/- A part of the proof; no condition. -/
import Derived.Test.YtkhonmhnchdpkaaGreatP39
set_option maxRecDepth 100000
set_option maxHeartbeats 40000000
namespace Go.Proofs.YtkhonmhnchdpkaaGreat
open Go.RowKit _root_.Go.Proofs.Tryz
section
variable {m m':Zh} {c0 c1 c st:Int} {x:Nat} {r:Y1}
def Zh.verW (m:Zh) (c1 c:Int):Int:=m.cw c1 c 0
def Zh.nowB (m:Zh) (c1 c:Int):Nat:=Zt (m.cw c1 c 1).toNat
def Zh.wasB (m:Zh) (c1 c:Int):Nat:=Zt (m.cw c1 c 2).toNat
def Kc (m:Zh) (c1 c st:Int) (x:Nat):Prop:=(m.verW c1 c<=st/\m.nowB c1 c=x)\/(m.verW c1 c=st+1/\m.wasB c1 c=x)
theorem Kc.fix (h:Kc m c1 c st x):Zt x=x:=by
 rcases h with ⟨_,rfl⟩|⟨_,rfl⟩
 ·exact Jc _
 ·exact Jc _
def P7 (m:Zh) (c1:Int) (r:Y1) (x:Nat):Prop:=
 r.pa=0\/(r.pa=1/\r.ve<=r.st/\(m.verW c1 r.c=r.ve\/m.verW c1 r.c=r.st+1))\/
 (r.pa=2/\r.ve<=r.st/\(m.verW c1 r.c=r.ve\/m.verW c1 r.c=r.st+1)/\(r.va=x\/m.verW c1 r.c=r.st+1))\/(r.pa=3/\m.verW c1 r.c=r.st+1)
inductive Kq (m m':Zh) (c1 c st:Int):Prop where
 |same (h0:m'.verW c1 c=m.verW c1 c) (h1:m'.nowB c1 c=m.nowB c1 c) (h2:m'.wasB c1 c=m.wasB c1 c)
 |old (hv:m.verW c1 c<=st) (h0:m'.verW c1 c=m.verW c1 c) (h1:m'.nowB c1 c=m.nowB c1 c)
 |mark (hv:m.verW c1 c<=st) (he:m.wasB c1 c=m.nowB c1 c) (h0:m'.verW c1 c=st+1) (h2:m'.wasB c1 c=m.wasB c1 c)
 |put (hv:m.verW c1 c=st+1) (h0:m'.verW c1 c=st+1) (h2:m'.wasB c1 c=m.wasB c1 c)
theorem Kc.change (h:Kc m c1 c st x) (k:Kq m m' c1 c st):Kc m' c1 c st x:=by
 unfold Kc at h ⊢
 cases k with
 |same h0 h1 h2=>rw [h0,h1,h2];exact h
 |old hv h0 h1=>
  rw [h0,h1];rcases h with h|h
  ·exact .inl h
  ·omega
 |mark hv he h0 h2=>
  rw [h0,h2];rcases h with h|h
  ·exact .inr ⟨rfl,by rw [he];exact h.2⟩
  ·omega
 |put hv h0 h2=>
  rw [h0,h2];rcases h with h|h
  ·omega
  ·exact .inr ⟨rfl,h.2⟩
theorem P7.change (h:P7 m c1 r x) (k:Kq m m' c1 r.c r.st):P7 m' c1 r x:=by
 unfold P7 at h ⊢
 cases k with
 |same h0 h1 h2=>rw [h0];exact h
 |old hv h0 h1=>rw [h0];exact h
 |mark hv he h0 h2=>
  rw [h0];rcases h with h|⟨h1,h3,_⟩|⟨h1,h3,_⟩|⟨h1,h3⟩
  ·exact .inl h
  ·exact .inr (.inl ⟨h1,h3,.inr rfl⟩)
  ·exact .inr (.inr (.inl ⟨h1,h3,.inr rfl,.inr rfl⟩))
  ·exact .inr (.inr (.inr ⟨h1,rfl⟩))
 |put hv h0 h2=>
  rw [h0];rcases h with h|⟨h1,h3,_⟩|⟨h1,h3,_⟩|⟨h1,h3⟩
  ·exact .inl h
  ·exact .inr (.inl ⟨h1,h3,.inr rfl⟩)
  ·exact .inr (.inr (.inl ⟨h1,h3,.inr rfl,.inr rfl⟩))
  ·exact .inr (.inr (.inr ⟨h1,rfl⟩))
theorem P7.took (h:P7 m c1 r x) (g:Kc m c1 r.c r.st x):((r.took (m.cw c1 r.c r.which)).pa=4/\(r.took (m.cw c1 r.c r.which)).va=x)\/((r.took (m.cw c1 r.c r.which)).pa≠4/\P7 m c1 (r.took (m.cw c1 r.c r.which)) x):=by
 unfold P7 at h;rcases h with hp|⟨hp,h1,h2⟩|⟨hp,h1,h2,h3⟩|⟨hp,h1⟩
 ·have e:r.which=0:=by unfold Y1.which;rw [if_neg (by omega),if_neg (by omega)]
  rw [e];have ev:m.cw c1 r.c 0=m.verW c1 r.c:=rfl;rw [ev];unfold Y1.took;rw [if_pos hp];right
  by_cases hv:r.st < m.verW c1 r.c
  ·refine ⟨by simp [hv],.inr (.inr (.inr ⟨by simp [hv],?_⟩))⟩;rcases g with g|g
   ·omega
   ·exact g.1
  ·refine ⟨by simp [hv],.inr (.inl ⟨by simp [hv],by show m.verW c1 r.c<=r.st;omega,.inl rfl⟩)⟩
 ·have e:r.which=1:=by unfold Y1.which;rw [if_pos hp]
  rw [e];unfold Y1.took;rw [if_neg (by omega),if_pos hp];right;refine ⟨by simp,.inr (.inr (.inl ⟨rfl,h1,h2,?_⟩))⟩;rcases g with g|g
  ·exact .inl g.2
  ·exact .inr g.1
 ·have e:r.which=0:=by unfold Y1.which;rw [if_neg (by omega),if_neg (by omega)]
  rw [e];have ev:m.cw c1 r.c 0=m.verW c1 r.c:=rfl;rw [ev];unfold Y1.took;rw [if_neg (by omega),if_neg (by omega),if_pos hp]
  by_cases hv:m.verW c1 r.c=r.ve
  ·left;refine ⟨by simp [hv],?_⟩;rcases h3 with h3|h3
   ·exact h3
   ·omega
  ·right;refine ⟨by simp [hv],.inr (.inr (.inr ⟨by simp [hv],?_⟩))⟩;rcases h2 with h2|h2
   ·exact absurd h2 hv
   ·exact h2
 ·have e:r.which=2:=by unfold Y1.which;rw [if_neg (by omega),if_pos hp]
  rw [e];unfold Y1.took;rw [if_neg (by omega),if_neg (by omega),if_neg (by omega)];left;refine ⟨rfl,?_⟩;rcases g with g|g
  ·omega
  ·exact g.2
def Ul (m:Zh) (c0 c1:Int) (y:Yg):Prop:=
 ∃ g:Int->Nat,(∀ c,0<=c->c < c0->Kc m c1 c y.com.st (g c))/\(∀ p∈y.m.reads,p.2=g p.1)/\(∀ r,y.read=some r->P7 m c1 r (g r.c))
theorem Ul.change {y:Yg} (h:Ul m c0 c1 y) (hr:∀ r,y.read=some r->(0<=r.c/\r.c < c0)/\r.st=y.com.st) (k:∀ c,0<=c->c < c0->Kq m m' c1 c y.com.st):Ul m' c0 c1 y:=by
 obtain ⟨g,h1,h2,h3⟩:=h;refine ⟨g,λ c a b=>(h1 c a b).change (k c a b),h2,λ r e=>?_⟩;obtain ⟨⟨a,b⟩,est⟩:=hr r e;exact (h3 r e).change (by rw [est];exact k r.c a b)
def Jw (m m':Zh) (c0 c1:Int):Prop:=∀ c,0<=c->c < c0->m'.verW c1 c=m.verW c1 c/\m'.nowB c1 c=m.nowB c1 c/\m'.wasB c1 c=m.wasB c1 c
theorem Jw.change (h:Jw m m' c0 c1) (a:0<=c) (b:c < c0):Kq m m' c1 c st:=.same (h c a b).1 (h c a b).2.1 (h c a b).2.2
theorem Ue (h:m'.ws=m.ws):Jw m m' c0 c1:=by
 intro c _ _;have e:∀ n,m'.wd n=m.wd n:=λ n=>by unfold Zh.wd;rw [h]
 unfold Zh.verW Zh.nowB Zh.wasB Zh.cw;simp only [e];exact ⟨trivial,trivial,trivial⟩
theorem U6 (hb:1<=c1) (h:∀ n:Nat,3+c1<=n->m'.wd n=m.wd n):Jw m m' c0 c1:=by
 intro c a _;unfold Zh.verW Zh.nowB Zh.wasB Zh.cw Z4;rw [h _ (by omega),h _ (by omega),h _ (by omega)];exact ⟨rfl,rfl,rfl⟩
theorem Ul.new {y:Yg} (hv:∀ c,0<=c->c < c0->m.verW c1 c<=y.com.st+1) (hr:y.m.reads=[]) (hn:y.read=none):Ul m c0 c1 y:=by
 refine ⟨λ c=>if m.verW c1 c<=y.com.st then m.nowB c1 c else m.wasB c1 c,λ c a b=>?_,by rw [hr];simp,λ r e=>by rw [hn] at e;cases e⟩;show Kc m c1 c y.com.st (if m.verW c1 c<=y.com.st then m.nowB c1 c else m.wasB c1 c)
 by_cases h:m.verW c1 c<=y.com.st
 ·rw [if_pos h];exact .inl ⟨h,rfl⟩
 ·rw [if_neg h];refine .inr ⟨?_,rfl⟩;have:=hv c a b;omega
end
section
def Nh (d:Zv):Prop:=(d.tag=2/\d.writes≠[])\/∀ p∈d.reads,∀ q∈d.reads,p.1=q.1->p.2=q.2
def Jx (txs:List Gq) (y:Yg):Prop:=∃ (i:Nat) (raw:Zv),txs[i]? =some ⟨raw,some (.rd y)⟩
structure Q4 (m:Zh) (c0 c1:Int) (txs:List Gq) (x:Z2):Prop where
 was:4<=x.part->x.part<=6->∀ j,x.written<=j->j < x.was.length->x.was.getD j 0=m.nowB c1 (x.m.buf.order.getD j 0)
 scan:x.part=5->∀ c y,x.scan=some c->Jx txs y->y.com.n=3->y.thread < c.nx->y.com.st=m.wd 2
 all:x.part=6->∀ y,Jx txs y->y.com.n=3->y.com.st=m.wd 2
 rest:x.part=6->∀ j,x.written < j->j < x.was.length->m.verW c1 (x.m.buf.order.getD j 0)<=m.wd 2
 now:x.part=6->∃ n,0<=n/\n < 3/\x.wr=x.wr0 c0 c1 n/\(n<=1->m.verW c1 (Xr x)<=m.wd 2)/\(1<=n->m.wasB c1 (Xr x)=m.nowB c1 (Xr x))/\(n=2->m.verW c1 (Xr x)=m.wd 2+1)
 qui:4<=x.part->x.m.buf.order=[]->∀ p∈x.m.reads,(0<=p.1/\p.1 < c0)/\p.2=m.nowB c1 p.1
structure Q5 (m:Zh) (c0 c1:Int) (txs:List Gq):Prop where
 ver:∀ c,0<=c->c < c0->m.verW c1 c<=m.wd 2+1
 low:(∀ c,0<=c->c < c0->m.verW c1 c<=m.wd 2)\/∃ (i:Nat) (raw:Zv) (x:Z2),txs[i]? =some ⟨raw,some (.wr x)⟩/\(x.part=6\/x.part=7)
 cl:∀ (i:Nat) (raw:Zv) (y:Yg),txs[i]? =some ⟨raw,some (.rd y)⟩->1<=y.com.n->0<=y.com.cl/\y.com.cl<=m.wd 2
 cen:∀ (i:Nat) (raw:Zv) (y:Yg),txs[i]? =some ⟨raw,some (.rd y)⟩->2<=y.com.n->m.wd (3+y.thread).toNat=y.com.cl+1
 st:∀ (i:Nat) (raw:Zv) (y:Yg),txs[i]? =some ⟨raw,some (.rd y)⟩->y.com.n=3->y.com.cl<=y.com.st/\y.com.st<=m.wd 2
 rd:∀ (i:Nat) (raw:Zv) (y:Yg),txs[i]? =some ⟨raw,some (.rd y)⟩->y.com.n=3->Ul m c0 c1 y
 wr:∀ (i:Nat) (raw:Zv) (x:Z2),txs[i]? =some ⟨raw,some (.wr x)⟩->Q4 m c0 c1 txs x
 old:∀ (i:Nat) (raw:Zv),txs[i]? =some ⟨raw,none⟩->Nh raw
variable {m m':Zh} {c0 c1:Int} {txs:List Gq} {i:Nat} {z:Gq} {x x':Z2} {y y':Yg} {raw:Zv}
theorem Ce (hi:i < txs.length) (z:Gq) (j:Nat):(txs.set i z)[j]? =if i=j then some z else txs[j]?:=by
 rw [List.getElem?_set]
 by_cases e:i=j
 ·rw [if_pos e,if_pos e,if_pos (by omega)]
 ·rw [if_neg e,if_neg e]
theorem Ds (hi:i < txs.length) (h:Jx (txs.set i z) y):(z.g=some (.rd y))\/∃ j raw,j≠i/\txs[j]? =some ⟨raw,some (.rd y)⟩:=by
 obtain ⟨j,raw,hj⟩:=h;rw [Ce hi] at hj
 by_cases e:i=j
 ·rw [if_pos e] at hj;left;rw [Zo_ hj]
 ·rw [if_neg e] at hj;exact .inr ⟨j,raw,λ e2=>e e2.symm,hj⟩
theorem Q4.same (h:Q4 m c0 c1 txs x) (hc:∀ c∈x.m.buf.order,0<=c/\c < c0) (hwl:x.was.length=x.m.buf.order.length) (hcc:x.part=6->0<=Xr x/\Xr x < c0) (sm:Jw m m' c0 c1) (hk:m'.wd 2=m.wd 2) {txs':List Gq}
  (hr:∀ y,Jx txs' y->y.com.n=3->(∃ y0,Jx txs y0/\y0.com=y.com/\y0.thread=y.thread)\/y.com.st=m.wd 2):Q4 m' c0 c1 txs' x:=by
 have hm:∀ j,j < x.was.length->0<=x.m.buf.order.getD j 0/\x.m.buf.order.getD j 0 < c0:=λ j hj=>hc _ (by
  have hj':j < x.m.buf.order.length:=by omega
  rw [List.getD_eq_getElem?_getD,List.getElem?_eq_getElem hj'];exact List.getElem_mem hj')
 refine ⟨λ a b j h1 h2=>?_,λ a c y h1 h2 h3 h4=>?_,λ a y h2 h3=>?_,λ a j h1 h2=>?_,λ a=>?_,λ a b p hp=>?_⟩
 ·rw [(sm _ (hm j h2).1 (hm j h2).2).2.1];exact h.was a b j h1 h2
 ·rw [hk];rcases hr y h2 h3 with ⟨y0,q1,q2,q3⟩|q
  ·rw [<-q2];exact h.scan a c y0 h1 q1 (by rw [q2];exact h3) (by rw [q3];exact h4)
  ·exact q
 ·rw [hk];rcases hr y h2 h3 with ⟨y0,q1,q2,q3⟩|q
  ·rw [<-q2];exact h.all a y0 q1 (by rw [q2];exact h3)
  ·exact q
 ·rw [(sm _ (hm j h2).1 (hm j h2).2).1,hk];exact h.rest a j h1 h2
 ·obtain ⟨n,q1,q2,q3,q4,q5,q6⟩:=h.now a;obtain ⟨e1,e2,e3⟩:=sm _ (hcc a).1 (hcc a).2;exact ⟨n,q1,q2,q3,by rw [e1,hk];exact q4,by rw [e2,e3];exact q5,by rw [e1,hk];exact q6⟩
 ·obtain ⟨⟨q1,q2⟩,q3⟩:=h.qui a b p hp;exact ⟨⟨q1,q2⟩,by rw [(sm _ q1 q2).2.1];exact q3⟩
theorem Jz.ww (h:Jz c0 c1 x):(∀ c∈x.m.buf.order,0<=c/\c < c0)/\x.was.length=x.m.buf.order.length/\(x.part=6->0<=Xr x/\Xr x < c0):=⟨h.bc,h.was,λ hp=>h.cell hp⟩
structure T0 (c0 c1:Int) (m:Zh) (txs:List Gq):Prop where
 k:Bs c0 c1
 len:(m.ws.length:Int)=Zw c0 c1
 w:∀ (i:Nat) (raw:Zv) (x:Z2),txs[i]? =some ⟨raw,some (.wr x)⟩->Jz c0 c1 x
 r:∀ (i:Nat) (raw:Zv) (y:Yg),txs[i]? =some ⟨raw,some (.rd y)⟩->Ks c0 c1 y.thread y
 two:∀ (i j:Nat) (r1 r2:Zv) (y1 y2:Yg),txs[i]? =some ⟨r1,some (.rd y1)⟩->txs[j]? =some ⟨r2,some (.rd y2)⟩->y1.thread=y2.thread->i=j
 one:∀ (i j:Nat) (r1 r2:Zv) (x1 x2:Z2),txs[i]? =some ⟨r1,some (.wr x1)⟩->txs[j]? =some ⟨r2,some (.wr x2)⟩->3<=x1.part->3<=x2.part->i=j
 stamp:∀ (i:Nat) (raw:Zv) (x:Z2),txs[i]? =some ⟨raw,some (.wr x)⟩->4<=x.part->x.part<=7->x.stamp=m.wd 2
 small:0<=m.wd 2/\m.wd 2 < 1000000000
theorem Ks.rdc (h:Ks c0 c1 y.thread y):∀ r,y.read=some r->(0<=r.c/\r.c < c0)/\r.st=y.com.st:=λ r e=>by
 have o:=(h.rd r e).2.2;exact ⟨⟨o.lo,o.hi⟩,o.st⟩
theorem Q5.reader (h:Q5 m c0 c1 txs) (o:T0 c0 c1 m txs) (hi:txs[i]? =some ⟨raw,some (.rd y)⟩) (sm:Jw m m' c0 c1) (hk:m'.wd 2=m.wd 2)
  (hcen:∀ n:Nat,n≠(3+y.thread).toNat->3<=n->(n:Int) < 3+c1->m'.wd n=m.wd n)
  (hz:∀ y',z.g=some (.rd y')->y'.thread=y.thread/\(y.com.n=3->y'.com=y.com)/\(y'.com.n=3->y.com.n=3\/y'.com.st=m.wd 2)/\(1<=y'.com.n->0<=y'.com.cl/\y'.com.cl<=m.wd 2)/\(2<=y'.com.n->m'.wd (3+y.thread).toNat=y'.com.cl+1)/\(y'.com.n=3->y'.com.cl<=y'.com.st/\y'.com.st<=m.wd 2/\Ul m' c0 c1 y'))
  (hw:∀ x,z.g≠some (.wr x)) (ho:z.g=none->Nh z.raw):Q5 m' c0 c1 (txs.set i z):=by
 have hil:=(List.getElem?_eq_some_iff.1 hi).1;have T:=Ce hil z;have hcm:∀ c,0<=c->c < c0->m'.verW c1 c=m.verW c1 c:=λ c a b=>(sm c a b).1;refine ⟨λ c a b=>?_,?_,λ j raw2 y2 hj=>?_,λ j raw2 y2 hj h2=>?_,λ j raw2 y2 hj h3=>?_,λ j raw2 y2 hj h3=>?_,λ j raw2 x2 hj=>?_,λ j raw2 hj=>?_⟩
 ·rw [hcm c a b,hk];exact h.ver c a b
 ·rcases h.low with q|⟨j,raw2,x2,hj,hp⟩
  ·left;intro c a b;rw [hcm c a b,hk];exact q c a b
  ·right;refine ⟨j,raw2,x2,?_,hp⟩;rw [T,if_neg (by rintro rfl;rw [hi] at hj;simp at hj)];exact hj
 ·rw [T] at hj;rw [hk];split at hj
  ·have e:=Zo_ hj;exact (hz y2 (by rw [e])).2.2.2.1
  ·exact h.cl j raw2 y2 hj
 ·rw [T] at hj;split at hj
  ·have e:=Zo_ hj;have q:=hz y2 (by rw [e]);rw [q.1];exact q.2.2.2.2.1 h2
  ·rename_i hne;have hs:=o.r j raw2 y2 hj;have hthr:y2.thread≠y.thread:=λ e=>hne (o.two j i _ _ _ _ hj hi e).symm;have ht0:=hs.t0;have ht1:=hs.t1;have hs':=o.r i raw y hi;have hu0:=hs'.t0;rw [hcen _ (by omega) (by omega) (by omega)];exact h.cen j raw2 y2 hj h2
 ·rw [T] at hj;rw [hk];split at hj
  ·have e:=Zo_ hj;have q:=(hz y2 (by rw [e])).2.2.2.2.2 h3;exact ⟨q.1,q.2.1⟩
  ·exact h.st j raw2 y2 hj h3
 ·rw [T] at hj;split at hj
  ·have e:=Zo_ hj;exact ((hz y2 (by rw [e])).2.2.2.2.2 h3).2.2
  ·exact (h.rd j raw2 y2 hj h3).change (o.r j raw2 y2 hj).rdc (λ c a b=>sm.change a b)
 ·rw [T] at hj;split at hj
  ·have e:=Zo_ hj;exact absurd (by rw [e]) (hw x2)
  ·obtain ⟨b1,b2,b3⟩:=(o.w j raw2 x2 hj).ww;refine (h.wr j raw2 x2 hj).same b1 b2 b3 sm hk (λ y3 h3 hn=>?_);rcases Ds hil h3 with e|⟨j3,raw3,_,hj3⟩
   ·have q:=hz y3 e;rcases q.2.2.1 hn with q3|q3
    ·exact .inl ⟨y,⟨i,raw,hi⟩,(q.2.1 q3).symm,q.1.symm⟩
    ·exact .inr q3
   ·exact .inl ⟨y3,⟨j3,raw3,hj3⟩,rfl,rfl⟩
 ·rw [T] at hj;split at hj
  ·have e:=Zo_ hj;have:=ho (by rw [e]);rw [e] at this;exact this
  ·exact h.old j raw2 hj
theorem Q5.writer (h:Q5 m c0 c1 txs) (o:T0 c0 c1 m txs) (hi:txs[i]? =some ⟨raw,some (.wr x)⟩) (hk:m.wd 2<=m'.wd 2) (_:m'.wd 2=m.wd 2\/x.part=7)
  (hcen:∀ n:Nat,3<=n->(n:Int) < 3+c1->m'.wd n=m.wd n)
  (hch:∀ c st,0<=c->c < c0->(x.part=6->st=m.wd 2)->Kq m m' c1 c st) (hsm:x.part≠6->Jw m m' c0 c1)
  (hver:∀ c,0<=c->c < c0->m'.verW c1 c<=m'.wd 2+1)
  (hlow:(∀ c,0<=c->c < c0->m'.verW c1 c<=m'.wd 2)\/(∃ x',z.g=some (.wr x')/\(x'.part=6\/x'.part=7))\/(x.part<=5/\m'.wd 2=m.wd 2))
  (hp3:3<=x.part\/m'.wd 2=m.wd 2)
  (hw:∀ x',z.g=some (.wr x')->Q4 m' c0 c1 txs x') (hr:∀ y,z.g≠some (.rd y)) (ho:z.g=none->Nh z.raw):Q5 m' c0 c1 (txs.set i z):=by
 have hil:=(List.getElem?_eq_some_iff.1 hi).1;have T:=Ce hil z;have RS:∀ y,Jx (txs.set i z) y->Jx txs y:=by
  intro y hy;rcases Ds hil hy with e|⟨j,raw2,_,hj⟩
  ·exact absurd e (hr y)
  ·exact ⟨j,raw2,hj⟩
 have six:∀ y,Jx txs y->y.com.n=3->x.part=6->y.com.st=m.wd 2:=λ y hy hn hp=>(h.wr i raw x hi).all hp y hy hn;refine ⟨hver,?_,λ j raw2 y2 hj hn=>?_,λ j raw2 y2 hj h2=>?_,λ j raw2 y2 hj h3=>?_,λ j raw2 y2 hj h3=>?_,λ j raw2 x2 hj=>?_,λ j raw2 hj=>?_⟩
 ·rcases hlow with q|⟨x',e,hp⟩|⟨h5,hk2⟩
  ·exact .inl q
  ·right;refine ⟨i,z.raw,x',?_,hp⟩;rw [T,if_pos rfl];obtain ⟨zr,zg⟩:=z;simp only at e;rw [e]
  ·have sm:=hsm (by omega);rcases h.low with q|⟨j,raw2,x2,hj,hp⟩
   ·left;intro c a b;rw [(sm c a b).1,hk2];exact q c a b
   ·right;refine ⟨j,raw2,x2,?_,hp⟩;rw [T,if_neg (by rintro rfl;rw [hi] at hj;simp at hj;obtain ⟨-,rfl⟩:=hj;omega)];exact hj
 ·rw [T] at hj;split at hj
  ·have e:=Zo_ hj;exact absurd (by rw [e]) (hr y2)
  ·have:=h.cl j raw2 y2 hj hn;omega
 ·rw [T] at hj;split at hj
  ·have e:=Zo_ hj;exact absurd (by rw [e]) (hr y2)
  ·have hs:=o.r j raw2 y2 hj;have ht0:=hs.t0;have ht1:=hs.t1;rw [hcen _ (by omega) (by omega)];exact h.cen j raw2 y2 hj h2
 ·rw [T] at hj;split at hj
  ·have e:=Zo_ hj;exact absurd (by rw [e]) (hr y2)
  ·have:=h.st j raw2 y2 hj h3;omega
 ·rw [T] at hj;split at hj
  ·have e:=Zo_ hj;exact absurd (by rw [e]) (hr y2)
  ·exact (h.rd j raw2 y2 hj h3).change (o.r j raw2 y2 hj).rdc (λ c a b=>hch c _ a b (six y2 ⟨j,raw2,hj⟩ h3))
 ·rw [T] at hj;split at hj
  ·have e:=Zo_ hj;have q:=hw x2 (by rw [e]);exact ⟨q.was,λ a c y b hy=>q.scan a c y b (RS y hy),λ a y hy=>q.all a y (RS y hy),q.rest,q.now,q.qui⟩
  ·rename_i hne;rcases hp3 with hp3|hk2
   ·have hlt:¬ 3<=x2.part:=λ h3=>hne (o.one i j _ _ _ _ hi hj hp3 h3);exact ⟨λ a=>by omega,λ a=>by omega,λ a=>by omega,λ a=>by omega,λ a=>by omega,λ a=>by omega⟩
   ·by_cases h6:x.part=6
    ·have hlt:¬ 3<=x2.part:=λ h3=>hne (o.one i j _ _ _ _ hi hj (by omega) h3);exact ⟨λ a=>by omega,λ a=>by omega,λ a=>by omega,λ a=>by omega,λ a=>by omega,λ a=>by omega⟩
    ·obtain ⟨b1,b2,b3⟩:=(o.w j raw2 x2 hj).ww;exact (h.wr j raw2 x2 hj).same b1 b2 b3 (hsm h6) hk2 (λ y3 h3 hn=>.inl ⟨y3,RS y3 h3,rfl,rfl⟩)
 ·rw [T] at hj;split at hj
  ·have e:=Zo_ hj;have:=ho (by rw [e]);rw [e] at this;exact this
  ·exact h.old j raw2 hj
end
section
variable {m m':Zh} {c0 c1:Int} {txs:List Gq} {i v:Nat} {z:Gq} {x x':Z2} {y y':Yg} {raw:Zv} {r:Y1}
theorem Ul.goOn (k:Bs c0 c1) (hl:(m.ws.length:Int)=Zw c0 c1) (o:L1 c0 c1 y r) {g:Int->Nat} (G:∀ c,0<=c->c < c0->Kc m c1 c y.com.st (g c)) (R:∀ p∈y.m.reads,p.2=g p.1) (I:P7 m c1 r (g r.c)):
  (y.goOn r m.opened).1.com=y.com/\(y.goOn r m.opened).1.thread=y.thread/\Ul m c0 c1 (y.goOn r m.opened).1:=by
 have gr:=G r.c o.lo o.hi;rw [<-o.st] at gr;obtain ⟨-,q⟩:=Be k hl o;rcases q with ⟨h4,e⟩|⟨h4,e⟩
 ·rw [e];refine ⟨rfl,rfl,g,G,λ p hp=>?_,λ r' hr'=>by cases hr'⟩;have hp:p∈y.m.reads++[(y.m.cell,Zt (r.took (m.cw c1 r.c r.which)).va)]:=hp;rcases List.mem_append.1 hp with hp|hp
  ·exact R p hp
  ·simp at hp;subst hp;show Zt (r.took (m.cw c1 r.c r.which)).va=g y.m.cell;rcases I.took gr with ⟨_,hv⟩|⟨hn,_⟩
   ·rw [hv,<-o.c];exact (G r.c o.lo o.hi).fix
   ·exact absurd h4 hn
 ·rw [e];refine ⟨rfl,rfl,g,G,R,λ r' hr'=>?_⟩;have hr':some (r.took (m.cw c1 r.c r.which))=some r':=hr';obtain rfl:=Zo_ hr';rw [(Dn r _).2.1];rcases I.took gr with ⟨h,_⟩|⟨_,h⟩
  ·exact absurd h h4
  ·exact h
theorem Mn (h:Ul m c0 c1 y) (e:m'.ws=m.ws):Ul m' c0 c1 y:=by
 have w:∀ n,m'.wd n=m.wd n:=λ n=>by unfold Zh.wd;rw [e]
 have v0:∀ c,m'.verW c1 c=m.verW c1 c:=λ c=>by unfold Zh.verW Zh.cw;rw [w]
 have v1:∀ c,m'.nowB c1 c=m.nowB c1 c:=λ c=>by unfold Zh.nowB Zh.cw;rw [w]
 have v2:∀ c,m'.wasB c1 c=m.wasB c1 c:=λ c=>by unfold Zh.wasB Zh.cw;rw [w]
 obtain ⟨g,h1,h2,h3⟩:=h;refine ⟨g,λ c a b=>?_,h2,λ r hr=>?_⟩
 ·unfold Kc;rw [v0,v1,v2];exact h1 c a b
 ·unfold P7;rw [v0];exact h3 r hr
theorem Q5.rstep (h:Q5 m c0 c1 txs) (o:T0 c0 c1 m txs) (hi:txs[i]? =some ⟨raw,some (.rd y)⟩) (v:Nat) (hz:(z.g=some (.rd (y.step m.opened v).1)/\(y.step m.opened v).1.part≠4)\/(z.g=none/\(y.step m.opened v).1.part=4/\z.raw.reads=(y.step m.opened v).1.m.reads)):Q5 (y.step m.opened v).2 c0 c1 (txs.set i z):=by
 have hs:=o.r i raw y hi;have t0:=hs.t0;have t1:=hs.t1;have b0:=o.k.b0;have p1:=hs.p1;have p3:=hs.p3;have hzr:∀ y',z.g=some (.rd y')->y'=(y.step m.opened v).1:=by
  intro y' e;rcases hz with ⟨e2,_⟩|⟨e2,_⟩
  ·rw [e2] at e;simp at e;exact e.symm
  ·rw [e2] at e;cases e
 have hzw:∀ x,z.g≠some (.wr x):=by
  intro x e;rcases hz with ⟨e2,_⟩|⟨e2,_⟩
  ·rw [e2] at e;cases e
  ·rw [e2] at e;cases e
 rcases (show y.part=1\/y.part=2\/y.part=3 by omega) with hp|hp|hp
 ·have hno:z.g≠none:=by
   intro e;rcases hz with ⟨e2,_⟩|⟨_,e2,_⟩
   ·rw [e2] at e;cases e
   ·rcases Pe (v:=v) o.k o.len hs hp with ⟨_,e3,_⟩|⟨_,e3,_⟩|⟨_,e3,_⟩
    ·rw [e3] at e2;simp at e2
    ·rw [e3] at e2;simp at e2
    ·rw [e3] at e2;simp at e2
  rcases Pe (v:=v) o.k o.len hs hp with ⟨hn,e,ews⟩|⟨hn,e,em⟩|⟨hn,e,ews⟩
  ·have w:∀ n,(y.step m.opened v).2.wd n=m.wd n:=λ n=>by unfold Zh.wd;rw [ews]
   refine h.reader o hi (Ue ews) (w 2) (λ n _ _ _=>w n) (λ y' hy'=>?_) hzw (λ e=>absurd e hno);rw [hzr y' hy',e];have:=o.small;refine ⟨rfl,λ a=>by omega,λ a=>?_,λ _=>⟨?_,?_⟩,λ a=>?_,λ a=>?_⟩
   ·simp at a
   ·show 0<=m.wd 2;omega
   ·show m.wd 2<=m.wd 2;omega
   ·simp at a
   ·simp at a
  ·have hcl:=h.cl i raw y hi (by omega);have hsm:=o.small;have eu:u64 (y.com.cl+1)=y.com.cl+1:=Bt (by omega) (by omega);have hlt:=Uv o.k o.len (3+y.thread) (by omega) (by omega);have w:∀ n:Nat,(y.step m.opened v).2.wd n=if (3+y.thread).toNat=n then y.com.cl+1 else m.wd n:=λ n=>by
    rw [em,eu];exact Zh.store_wd (by omega) hlt _ n
   refine h.reader o hi (U6 b0 (λ n hn=>by rw [w,if_neg (by omega)])) (by rw [w,if_neg (by omega)]) (λ n hne _ _=>by rw [w,if_neg (λ e=>hne e.symm)]) (λ y' hy'=>?_) hzw (λ e=>absurd e hno);rw [hzr y' hy',e];refine ⟨rfl,λ a=>by omega,λ a=>?_,λ _=>hcl,λ _=>?_,λ a=>?_⟩
   ·simp at a
   ·rw [w,if_pos rfl]
   ·simp at a
  ·have w:∀ n,(y.step m.opened v).2.wd n=m.wd n:=λ n=>by unfold Zh.wd;rw [ews]
   have hcl:=h.cl i raw y hi (by omega);have hcen:=h.cen i raw y hi (by omega);refine h.reader o hi (Ue ews) (w 2) (λ n _ _ _=>w n) (λ y' hy'=>?_) hzw (λ e=>absurd e hno);rw [hzr y' hy',e];refine ⟨rfl,λ a=>by omega,λ _=>.inr rfl,λ _=>hcl,λ _=>?_,λ _=>⟨hcl.2,Int.le_refl _,?_⟩⟩
   ·rw [w];exact hcen
   ·refine Mn (m:=m) ?_ ews;refine Ul.new (λ c a b=>h.ver c a b) (hs.low hp).1 ?_;cases hr:y.read with
    |none=>rfl
    |some r=>exact absurd (hs.rd r hr).1 (by omega)
 ·have hn3:=hs.n3 (by omega);obtain ⟨ews,q⟩:=Nu o.k o.len hs hp v;have w:∀ n,(y.step m.opened v).2.wd n=m.wd n:=λ n=>by unfold Zh.wd;rw [ews]
  have hcl:=h.cl i raw y hi (by omega);have hcen:=h.cen i raw y hi (by omega);have hst:=h.st i raw y hi hn3;have hrd:=h.rd i raw y hi hn3;have main:(y.step m.opened v).1.com=y.com/\(y.step m.opened v).1.thread=y.thread/\Ul m c0 c1 (y.step m.opened v).1/\(y.step m.opened v).1.part≠4:=by
   obtain ⟨g,G,R,I⟩:=hrd;have pt:∀ (y2:Yg) (r2:Y1),(y2.goOn r2 m.opened).1.part=y2.part:=by
    intro y2 r2;unfold Yg.goOn;simp only;split <;> rfl
   rcases q with ⟨r,hr,e⟩|⟨hr,h1,e,ok⟩|⟨hr,h4,e⟩|⟨hr,h0,e⟩
   ·have q:=Ul.goOn o.k o.len (hs.rd r hr).2.2 G R (I r hr);rw [e];exact ⟨q.1,q.2.1,q.2.2,by rw [pt];omega⟩
   ·have ms:=Qz v (hs.nw hr);have q:=Ul.goOn o.k o.len ok (g:=g) G (by show ∀ p∈(y.m.step v).1.reads,p.2=g p.1;rw [(ms.k1 h1).2.2.2.2.2];exact R) (.inl rfl);rw [e];exact ⟨q.1,q.2.1,q.2.2,by rw [pt];show y.part≠4;omega⟩
   ·have ms:=Qz v (hs.nw hr);rw [e];refine ⟨rfl,rfl,⟨g,G,?_,λ r hr2=>?_⟩,by simp⟩
    ·show ∀ p∈(y.m.step v).1.reads,p.2=g p.1;rw [(ms.k4 h4).2.2];exact R
    ·have hr2:y.read=some r:=hr2;rw [hr] at hr2;cases hr2
   ·have ms:=Qz v (hs.nw hr);rw [e];refine ⟨rfl,rfl,⟨g,G,?_,λ r hr2=>?_⟩,by show y.part≠4;omega⟩
    ·show ∀ p∈(y.m.step v).1.reads,p.2=g p.1;rw [(ms.k0 h0).2];exact R
    ·have hr2:y.read=some r:=hr2;rw [hr] at hr2;cases hr2
  obtain ⟨m1,m2,m3,m4⟩:=main;refine h.reader o hi (Ue ews) (w 2) (λ n _ _ _=>w n) (λ y' hy'=>?_) hzw (λ e=>?_)
  ·rw [hzr y' hy',m1,m2];exact ⟨rfl,λ _=>rfl,λ _=>.inl hn3,λ _=>hcl,λ _=>by rw [w];exact hcen,λ _=>⟨hst.1,hst.2,Mn m3 ews⟩⟩
  ·rcases hz with ⟨e2,_⟩|⟨_,e2,_⟩
   ·rw [e2] at e;cases e
   ·exact absurd e2 m4
 ·have hn3:=hs.n3 (by omega);have e:=Ru (v:=v) (s:=m) o.k hs hp;have hlt:=Uv o.k o.len (3+y.thread) (by omega) (by omega);have w:∀ n:Nat,(y.step m.opened v).2.wd n=if (3+y.thread).toNat=n then 0 else m.wd n:=λ n=>by
   rw [e];exact Zh.store_wd (by omega) hlt _ n
  have hrd:=h.rd i raw y hi hn3;refine h.reader o hi (U6 b0 (λ n hn=>by rw [w,if_neg (by omega)])) (by rw [w,if_neg (by omega)]) (λ n hne _ _=>by rw [w,if_neg (λ e=>hne e.symm)]) (λ y' hy'=>?_) hzw (λ _=>?_)
  ·rcases hz with ⟨_,e2⟩|⟨e2,_⟩
   ·rw [e] at e2;exact absurd rfl e2
   ·rw [e2] at hy';cases hy'
  ·rcases hz with ⟨_,e2⟩|⟨_,_,e3⟩
   ·rw [e] at e2;exact absurd rfl e2
   ·right;rw [e3,e];obtain ⟨g,_,R,_⟩:=hrd;intro p hp2 q hq he;rw [R p hp2,R q hq,he]
end
section
variable {m m':Zh} {c0 c1:Int} {txs:List Gq} {i v:Nat} {z:Gq} {x x':Z2} {y y':Yg} {raw:Zv} {r:Y1}
theorem Q4.low (hp:x'.part<=3):Q4 m c0 c1 txs x':=⟨λ a=>by omega,λ a=>by omega,λ a=>by omega,λ a=>by omega,λ a=>by omega,λ a=>by omega⟩
theorem cw_cell (k:Bs c0 c1) (hl:(m.ws.length:Int)=Zw c0 c1) {c d j w:Int} (h0:0<=d) (h1:d < c0) (w0:0<=w) (w2:w<=2) (c00:0<=c) (j0:0<=j) (j2:j<=2) (u:Int):(m.opened.cellS (Z4 c1) d w u).cw c1 c j=if c=d/\j=w then u else m.cw c1 c j:=by
 have b0:=k.b0;unfold Zh.cw;rw [cw_set k hl h0 h1 w0 w2];unfold Z4
 by_cases e:c=d/\j=w
 ·obtain ⟨rfl,rfl⟩:=e;rw [if_pos rfl,if_pos ⟨rfl,rfl⟩]
 ·rw [if_neg e,if_neg (by omega)]
theorem Q5.lowL (h:Q5 m c0 c1 txs) (o:T0 c0 c1 m txs) (hi:txs[i]? =some ⟨raw,some (.wr x)⟩) (h3:3<=x.part) (h6:x.part≠6) (h7:x.part≠7):∀ c,0<=c->c < c0->m.verW c1 c<=m.wd 2:=by
 rcases h.low with q|⟨j,raw2,x2,hj,hp⟩
 ·exact q
 ·exfalso;have e:=o.one i j _ _ _ _ hi hj h3 (by omega);subst e;rw [hi] at hj;simp at hj;obtain ⟨-,rfl⟩:=hj;omega
theorem Na {l:List Int} {j:Nat} (h:j < l.length):l.getD j 0∈l:=by
 rw [List.getD_eq_getElem?_getD,List.getElem?_eq_getElem h];exact List.getElem_mem h
theorem Tk {α:Type} {l:List α} {a d:α} {j:Nat}:(l++[a]).getD j d=if j=l.length then a else l.getD j d:=by
 split
 ·rename_i h;subst h;simp
 ·rename_i h;rcases Nat.lt_or_ge j l.length with h'|h'
  ·simp [List.getElem?_append_left h']
  ·rw [List.getD_eq_getElem?_getD,List.getD_eq_getElem?_getD,List.getElem?_eq_none (by simp;omega),List.getElem?_eq_none (by omega)]
theorem Q4.ran (h:Q4 m c0 c1 txs x) (hs:Jz c0 c1 x) (hp:x.part=4) (ht:∀ y,Jx txs y->0<=y.thread) {r:Z2×Zh} (q:Ran x m v r):Q4 m c0 c1 txs r.1/\r.2.ws=m.ws/\r.1.part≠9:=by
 have ms:=Qz v hs.wt;have hk1:=hs.k1;have now:∀ c,Zt (m.cw x.c1 c 1).toNat=m.nowB c1 c:=λ c=>by rw [hk1];rfl
 cases q with
 |quiet hk e=>
  subst e;have ho:(x.m.step v).1.buf.order=x.m.buf.order:=by
   rcases hk with q|q|⟨q,f⟩
   ·rw [(ms.k0 q).1]
   ·rw [(ms.k2 q).2.1]
   ·rw [(ms.k3 q).2.2.1,Qk];have:=(ms.k3 q).2.2.2.1;rw [f] at this;have hkn:x.m.buf.known (x.m.step v).2.cell=true:=by
     cases hq:x.m.buf.known (x.m.step v).2.cell with
     |true=>rfl
     |false=>rw [hq] at this;cases this
    rw [if_pos hkn]
  refine ⟨⟨λ a b j j1 j2=>?_,λ a=>?_,λ a=>?_,λ a=>?_,λ a=>?_,λ a b p hp2=>?_⟩,rfl,?_⟩
  ·show x.was.getD j 0=m.nowB c1 ((x.m.step v).1.buf.order.getD j 0);rw [ho];exact h.was (by omega) (by omega) j j1 j2
  ·have a:x.part=5:=a;omega
  ·have a:x.part=6:=a;omega
  ·have a:x.part=6:=a;omega
  ·have a:x.part=6:=a;omega
  ·have b:(x.m.step v).1.buf.order=[]:=b;rw [ho] at b;have nk:∀ c,x.m.buf.known c≠true:=λ c hc=>by
    have:=(hs.buf.kn c).1 hc;rw [b] at this;cases this
   have hp2:p∈(x.m.step v).1.reads:=hp2;rcases hk with q|q|⟨q,f⟩
   ·rw [(ms.k0 q).2] at hp2;exact h.qui (by omega) b p hp2
   ·exact absurd (ms.k2 q).1 (nk _)
   ·rw [(ms.k3 q).2.2.2.2.1] at hp2;exact h.qui (by omega) b p hp2
  ·show x.part≠9;omega
 |read hk e=>
  subst e;obtain ⟨k1,k2,⟨k3,k4⟩,k5,k6,k7⟩:=ms.k1 hk;refine ⟨⟨λ a b j j1 j2=>?_,λ a=>?_,λ a=>?_,λ a=>?_,λ a=>?_,λ a b p hp2=>?_⟩,Zh.cellM_ws _ _ _ _,?_⟩
  ·show x.was.getD j 0=m.nowB c1 ((x.m.step v).1.buf.order.getD j 0);rw [k6];exact h.was (by omega) (by omega) j j1 j2
  ·have a:x.part=5:=a;omega
  ·have a:x.part=6:=a;omega
  ·have a:x.part=6:=a;omega
  ·have a:x.part=6:=a;omega
  ·have b:(x.m.step v).1.buf.order=[]:=b;rw [k6] at b;have hp2:p∈(x.m.step v).1.reads++[((x.m.step v).1.cell,Zt (Zt (m.cw x.c1 (x.m.step v).2.cell 1).toNat))]:=hp2;rw [k7,k2,now] at hp2;rcases List.mem_append.1 hp2 with hp2|hp2
   ·exact h.qui (by omega) b p hp2
   ·simp at hp2;subst hp2;refine ⟨⟨k3,by rw [<-hs.mc];exact k4⟩,?_⟩;show Zt (m.nowB c1 _)=m.nowB c1 _;exact Jc _
  ·show x.part≠9;omega
 |write hk hf e=>
  subst e;obtain ⟨k1,⟨k2,k3⟩,k4,k5,k6,k7⟩:=ms.k3 hk;have hkn:x.m.buf.known (x.m.step v).2.cell=false:=by
   rw [hf] at k5;cases hq:x.m.buf.known (x.m.step v).2.cell with
   |false=>rfl
   |true=>rw [hq] at k5;cases k5
  have ho:(x.m.step v).1.buf.order=x.m.buf.order++[(x.m.step v).2.cell]:=by rw [k4,Qk,if_neg (by simp [hkn])]
  refine ⟨⟨λ a b j j1 j2=>?_,λ a=>?_,λ a=>?_,λ a=>?_,λ a=>?_,λ a b p hp2=>?_⟩,Zh.cellM_ws _ _ _ _,?_⟩
  ·show (x.was++[Zt (m.cw x.c1 (x.m.step v).2.cell 1).toNat]).getD j 0=m.nowB c1 ((x.m.step v).1.buf.order.getD j 0);rw [ho,Tk,Tk,hs.was]
   by_cases e:j=x.m.buf.order.length
   ·rw [if_pos e,if_pos e,now]
   ·rw [if_neg e,if_neg e];have j2:j < (x.was++[Zt (m.cw x.c1 (x.m.step v).2.cell 1).toNat]).length:=j2;rw [List.length_append,List.length_singleton,hs.was] at j2;exact h.was (by omega) (by omega) j j1 (by rw [hs.was];omega)
  ·have a:x.part=5:=a;omega
  ·have a:x.part=6:=a;omega
  ·have a:x.part=6:=a;omega
  ·have a:x.part=6:=a;omega
  ·have b:(x.m.step v).1.buf.order=[]:=b;rw [ho] at b;simp at b
  ·show x.part≠9;omega
 |end' hk hh e=>
  subst e;obtain ⟨k1,k2,k3⟩:=ms.k4 hk;refine ⟨⟨λ a b j j1 j2=>?_,λ a c y hc hy hn hlt=>?_,λ a=>?_,λ a=>?_,λ a=>?_,λ a b p hp2=>?_⟩,rfl,?_⟩
  ·show x.was.getD j 0=m.nowB c1 ((x.m.step v).1.buf.order.getD j 0);rw [k2];exact h.was (by omega) (by omega) j j1 j2
  ·have hc:some (Gf x.c0 x.c1 x.stamp)=some c:=hc;obtain rfl:=Zo_ hc;have hlt:y.thread < 0:=hlt;have:=ht y hy;omega
  ·have a:(5:Int)=6:=a;omega
  ·have a:(5:Int)=6:=a;omega
  ·have a:(5:Int)=6:=a;omega
  ·have b:(x.m.step v).1.buf.order=[]:=b;rw [k2] at b;have hp2:p∈(x.m.step v).1.reads:=hp2;rw [k3] at hp2;exact h.qui (by omega) b p hp2
  ·show (5:Int)≠9;omega
 |stop hk hh e=>
  subst e;obtain ⟨k1,k2,k3⟩:=ms.k4 hk;refine ⟨⟨λ a b=>?_,λ a=>?_,λ a=>?_,λ a=>?_,λ a=>?_,λ a b p hp2=>?_⟩,rfl,?_⟩
  ·have b:(8:Int)<=6:=b;omega
  ·have a:(8:Int)=5:=a;omega
  ·have a:(8:Int)=6:=a;omega
  ·have a:(8:Int)=6:=a;omega
  ·have a:(8:Int)=6:=a;omega
  ·have b:(x.m.step v).1.buf.order=[]:=b;rw [k2] at b;have hp2:p∈(x.m.step v).1.reads:=hp2;rw [k3] at hp2;exact h.qui (by omega) b p hp2
  ·show (8:Int)≠9;omega
end
section
variable {m m':Zh} {c0 c1:Int} {txs:List Gq} {i v:Nat} {z:Gq} {x x':Z2} {y y':Yg} {raw:Zv} {r:Y1}
theorem Fk (b:Xj) (j:Nat) (h:j < b.order.length):(b.all.getD j (0,0)).1=b.order.getD j 0:=by
 unfold Xj.all;simp [List.getD_eq_getElem?_getD,h]
theorem Q4.scanned (h:Q4 m c0 c1 txs x) (hR:Q5 m c0 c1 txs) (o:T0 c0 c1 m txs) (hi:txs[i]? =some ⟨raw,some (.wr x)⟩) (hp:x.part=5) (v:Nat):Q4 m c0 c1 txs (x.step m.opened v).1/\(x.step m.opened v).2.ws=m.ws/\(x.step m.opened v).1.part≠9:=by
 have hs:=o.w i raw x hi;have hst:=o.stamp i raw x hi (by omega) (by omega);obtain ⟨nx,po,n0,n1,esc,ews,q⟩:=Nn (v:=v) o.k o.len hs hp;have pass:(m.wd (3+nx).toNat=0\/x.stamp < m.wd (3+nx).toNat)->∀ y,Jx txs y->y.com.n=3->y.thread < nx+1->y.com.st=m.wd 2:=by
  intro hps y hy hn hlt
  by_cases e:y.thread < nx
  ·exact h.scan hp _ y esc hy hn e
  ·have e:y.thread=nx:=by omega
   obtain ⟨j,raw2,hj⟩:=hy;have c1':=hR.cl j raw2 y hj (by omega);have c2:=hR.cen j raw2 y hj (by omega);have c3:=hR.st j raw2 y hj hn;rw [e] at c2;rw [c2] at hps;omega
 have was0:∀ j,x.written<=j->j < x.was.length->x.was.getD j 0=m.nowB c1 (x.m.buf.order.getD j 0):=h.was (by omega) (by omega);have wr0:=hs.wn (by omega);rcases q with ⟨_,e⟩|⟨hps,hlt,e⟩|⟨hps,hlt,e⟩
 ·rw [e];refine ⟨⟨λ _ _=>was0,λ a c y hc hy hn hl=>?_,λ a=>?_,λ a=>?_,λ a=>?_,λ a=>h.qui (by omega)⟩,ews,by show x.part≠9;omega⟩
  ·have hc:some _=some c:=hc;obtain rfl:=Zo_ hc;exact h.scan hp _ y esc hy hn hl
  ·have a:x.part=6:=a;omega
  ·have a:x.part=6:=a;omega
  ·have a:x.part=6:=a;omega
 ·rw [e];refine ⟨⟨λ _ _=>was0,λ a c y hc hy hn hl=>?_,λ a=>?_,λ a=>?_,λ a=>?_,λ a=>h.qui (by omega)⟩,ews,by show x.part≠9;omega⟩
  ·have hc:some _=some c:=hc;obtain rfl:=Zo_ hc;exact pass hps y hy hn hl
  ·have a:x.part=6:=a;omega
  ·have a:x.part=6:=a;omega
  ·have a:x.part=6:=a;omega
 ·have low:=hR.lowL o hi (by omega) (by omega) (by omega);have hrng:∀ j,j < x.was.length->0<=x.m.buf.order.getD j 0/\x.m.buf.order.getD j 0 < c0:=λ j hj=>hs.bc _ (Na (by rw [<-hs.was];exact hj));rw [e]
  by_cases hw:0 < x.was.length
  ·have ec:Xr {x with scan:=some ⟨0,1,2,3,Z4 c1,Zw c0 c1,c1,x.stamp,nx+1,po⟩,part:=if 0 < x.was.length then 6 else 7}=x.m.buf.order.getD 0 0:=by
    show (x.m.buf.all.getD x.written (0,0)).1=_;rw [wr0];exact Fk _ _ (by rw [<-hs.was];exact hw)
   refine ⟨⟨λ _ _=>was0,λ a=>?_,λ a y hy hn=>?_,λ a j j1 j2=>?_,λ a=>?_,λ a=>h.qui (by omega)⟩,ews,?_⟩
   ·have a:(if 0 < x.was.length then (6:Int) else 7)=5:=a;rw [if_pos hw] at a;omega
   ·refine pass hps y hy hn ?_;obtain ⟨j,raw2,hj⟩:=hy;have:=(o.r j raw2 y hj).t1;omega
   ·exact low _ (hrng j j2).1 (hrng j j2).2
   ·refine ⟨0,by omega,by omega,?_,λ _=>?_,λ a=>by omega,λ a=>by omega⟩
    ·unfold Z2.wr;have hb:x.back=none:=hs.nb (by omega);simp only [hb];rw [hs.k0,hs.k1];rfl
    ·rw [ec];exact low _ (hrng 0 hw).1 (hrng 0 hw).2
   ·show (if 0 < x.was.length then (6:Int) else 7)≠9;rw [if_pos hw];omega
  ·refine ⟨⟨λ _ b=>?_,λ a=>?_,λ a=>?_,λ a=>?_,λ a=>?_,λ a=>h.qui (by omega)⟩,ews,?_⟩
   ·have b:(if 0 < x.was.length then (6:Int) else 7)<=6:=b;rw [if_neg hw] at b;omega
   ·have a:(if 0 < x.was.length then (6:Int) else 7)=5:=a;rw [if_neg hw] at a;omega
   ·have a:(if 0 < x.was.length then (6:Int) else 7)=6:=a;rw [if_neg hw] at a;omega
   ·have a:(if 0 < x.was.length then (6:Int) else 7)=6:=a;rw [if_neg hw] at a;omega
   ·have a:(if 0 < x.was.length then (6:Int) else 7)=6:=a;rw [if_neg hw] at a;omega
   ·show (if 0 < x.was.length then (6:Int) else 7)≠9;rw [if_neg hw];omega
theorem Ap (k:Bs c0 c1) (hl:(m.ws.length:Int)=Zw c0 c1) {d n:Int} (d0:0<=d) (d1:d < c0) (_:0<=n) (_:n < 3) (u:Int):
  (∀ c,0<=c->c≠d->(m.opened.cellS (Z4 c1) d (Yv n) u).verW c1 c=m.verW c1 c/\(m.opened.cellS (Z4 c1) d (Yv n) u).nowB c1 c=m.nowB c1 c/\(m.opened.cellS (Z4 c1) d (Yv n) u).wasB c1 c=m.wasB c1 c)/\
  (n=0->(m.opened.cellS (Z4 c1) d (Yv n) u).verW c1 d=m.verW c1 d/\(m.opened.cellS (Z4 c1) d (Yv n) u).nowB c1 d=m.nowB c1 d/\(m.opened.cellS (Z4 c1) d (Yv n) u).wasB c1 d=Zt u.toNat)/\
  (n=1->(m.opened.cellS (Z4 c1) d (Yv n) u).verW c1 d=u/\(m.opened.cellS (Z4 c1) d (Yv n) u).nowB c1 d=m.nowB c1 d/\(m.opened.cellS (Z4 c1) d (Yv n) u).wasB c1 d=m.wasB c1 d)/\
  (n=2->(m.opened.cellS (Z4 c1) d (Yv n) u).verW c1 d=m.verW c1 d/\(m.opened.cellS (Z4 c1) d (Yv n) u).wasB c1 d=m.wasB c1 d):=by
 have hw:0<=Yv n/\Yv n<=2:=by unfold Yv;split <;> (try split) <;> omega
 have C:∀ c j,0<=c->0<=j->j<=2->(m.opened.cellS (Z4 c1) d (Yv n) u).cw c1 c j=if c=d/\j=Yv n then u else m.cw c1 c j:=λ c j a b e=>cw_cell k hl d0 d1 hw.1 hw.2 a b e u
 unfold Zh.verW Zh.nowB Zh.wasB;refine ⟨λ c a b=>?_,λ e=>?_,λ e=>?_,λ e=>?_⟩
 ·rw [C c 0 a (by omega) (by omega),C c 1 a (by omega) (by omega),C c 2 a (by omega) (by omega),if_neg (λ h=>b h.1),if_neg (λ h=>b h.1),if_neg (λ h=>b h.1)];exact ⟨rfl,rfl,rfl⟩
 ·have ew:Yv n=2:=by unfold Yv;rw [if_pos e]
  rw [C d 0 d0 (by omega) (by omega),C d 1 d0 (by omega) (by omega),C d 2 d0 (by omega) (by omega),ew,if_neg (by omega),if_neg (by omega),if_pos ⟨rfl,rfl⟩];exact ⟨rfl,rfl,rfl⟩
 ·have ew:Yv n=0:=by unfold Yv;rw [if_neg (by omega),if_pos e]
  rw [C d 0 d0 (by omega) (by omega),C d 1 d0 (by omega) (by omega),C d 2 d0 (by omega) (by omega),ew,if_pos ⟨rfl,rfl⟩,if_neg (by omega),if_neg (by omega)];exact ⟨rfl,rfl,rfl⟩
 ·have ew:Yv n=1:=by unfold Yv;rw [if_neg (by omega),if_neg (by omega)]
  rw [C d 0 d0 (by omega) (by omega),C d 2 d0 (by omega) (by omega),ew,if_neg (by omega),if_neg (by omega)];exact ⟨rfl,rfl⟩
end
section
variable {m m':Zh} {c0 c1:Int} {txs:List Gq} {i v:Nat} {z:Gq} {x x':Z2} {y y':Yg} {raw:Zv} {r:Y1}
theorem wr0_inj {n k:Int} (h:x.wr0 c0 c1 n=x.wr0 c0 c1 k):n=k:=congrArg Xu.n h
theorem Q4.put (h:Q4 m c0 c1 txs x) (o:T0 c0 c1 m txs) (hi:txs[i]? =some ⟨raw,some (.wr x)⟩) (hp:x.part=6) (v:Nat):
  (x.step m.opened v).2.wd 2=m.wd 2/\(∀ n:Nat,(n:Int) < 3+c1->(x.step m.opened v).2.wd n=m.wd n)/\(∀ c,0<=c->c < c0->Kq m (x.step m.opened v).2 c1 c (m.wd 2))/\
  ((∀ c,0<=c->c < c0->m.verW c1 c<=m.wd 2+1)->∀ c,0<=c->c < c0->(x.step m.opened v).2.verW c1 c<=m.wd 2+1)/\
  ((x.step m.opened v).1.part=6\/(x.step m.opened v).1.part=7)/\Q4 (x.step m.opened v).2 c0 c1 txs (x.step m.opened v).1:=by
 have hs:=o.w i raw x hi;have hst:=o.stamp i raw x hi (by omega) (by omega);have hsm:=o.small;have b0:=o.k.b0;obtain ⟨hlt,-⟩:=hs.wr hp;obtain ⟨d0,d1⟩:=hs.cell hp;obtain ⟨n,n0,n3,en,em,q⟩:=Nm (v:=v) o.k o.len hs hp;obtain ⟨n',q0,q3,en',v1,v2,v3⟩:=h.now hp;obtain rfl:n'=n:=wr0_inj (en'.symm.trans en);have hlo:x.written < x.m.buf.order.length:=by rw [<-hs.was];exact hlt
 have ecell:Xr x=x.m.buf.order.getD x.written 0:=Fk _ _ hlo;have eu:u64 (x.stamp+1)=m.wd 2+1:=by rw [hst];exact Bt (by omega) (by omega)
 obtain ⟨P,P0,P1,P2⟩:=Ap (m:=m) o.k o.len (d:=Xr x) (n:=n') d0 d1 n0 n3 (H4 x n');rw [<-em] at P P0 P1 P2;have K:∀ n:Nat,(n:Int) < 3+c1->(x.step m.opened v).2.wd n=m.wd n:=λ n hn=>by
  rw [em];exact Zh.cellS_low _ _ (by unfold Z4;omega) (by unfold Yv;split <;> (try split) <;> omega)
 have hwas:=h.was (by omega) (by omega);have now0:x.was.getD x.written 0=m.nowB c1 (Xr x):=by rw [ecell];exact hwas _ (Nat.le_refl _) hlt
 have val0:n'=0->Zt (H4 x n').toNat=m.nowB c1 (Xr x):=by
  intro e;unfold H4;rw [if_pos e,now0];show Zt (Zt (m.nowB c1 (Xr x)))=_;rw [Jc];exact Jc _
 have val1:n'=1->H4 x n'=m.wd 2+1:=by
  intro e;unfold H4;rw [if_neg (by omega),if_pos e,eu]
 have other:∀ j,j < x.was.length->j≠x.written->x.m.buf.order.getD j 0≠Xr x/\0<=x.m.buf.order.getD j 0/\x.m.buf.order.getD j 0 < c0:=by
  intro j hj hne;have hj':j < x.m.buf.order.length:=by rw [<-hs.was];exact hj
  refine ⟨λ e=>hne ?_,hs.bc _ (Na hj')⟩;rw [ecell,List.getD_eq_getElem?_getD,List.getD_eq_getElem?_getD,List.getElem?_eq_getElem hj',List.getElem?_eq_getElem hlo] at e;exact (List.getElem_inj hs.buf.nd).1 (by simpa using e)
 have K2:(x.step m.opened v).2.wd 2=m.wd 2:=K 2 (by omega);refine ⟨K2,K,λ c a b=>?_,λ hv c a b=>?_,?_,?_⟩
 ·by_cases e:c=Xr x
  ·subst e;rcases (show n'=0\/n'=1\/n'=2 by omega) with e|e|e
   ·obtain ⟨p1,p2,p3⟩:=P0 e;exact .old (v1 (by omega)) p1 p2
   ·obtain ⟨p1,p2,p3⟩:=P1 e;exact .mark (v1 (by omega)) (v2 (by omega)) (by rw [p1,val1 e]) p3
   ·obtain ⟨p1,p2⟩:=P2 e;exact .put (v3 e) (by rw [p1,v3 e]) p2
  ·obtain ⟨p1,p2,p3⟩:=P c a e;exact .same p1 p2 p3
 ·by_cases e:c=Xr x
  ·subst e;rcases (show n'=0\/n'=1\/n'=2 by omega) with e|e|e
   ·rw [(P0 e).1];exact hv _ a b
   ·rw [(P1 e).1,val1 e];omega
   ·rw [(P2 e).1];exact hv _ a b
  ·rw [(P c a e).1];exact hv c a b
 ·rcases q with ⟨_,e⟩|⟨_,_,e⟩|⟨_,_,e⟩
  ·rw [e];exact .inl hp
  ·rw [e];exact .inl hp
  ·rw [e];exact .inr rfl
 ·have qui:x.m.buf.order≠[]:=λ e=>by rw [e] at hlo;simp at hlo
  have al:=h.all hp;have rest:=h.rest hp;rcases q with ⟨hn,e⟩|⟨hn,hl2,e⟩|⟨hn,hl2,e⟩
  ·rw [e];refine ⟨λ _ _ j j1 j2=>?_,λ a=>?_,λ _ y hy hc=>by rw [K2];exact al y hy hc,λ _ j j1 j2=>?_,λ _=>?_,λ _ b=>absurd b qui⟩
   ·show x.was.getD j 0=(x.step m.opened v).2.nowB c1 (x.m.buf.order.getD j 0)
    by_cases ej:j=x.written
    ·subst ej;rw [<-ecell,now0];rcases (show n'=0\/n'=1 by omega) with e|e
     ·exact (P0 e).2.1.symm
     ·exact (P1 e).2.1.symm
    ·obtain ⟨o1,o2,o3⟩:=other j j2 ej;rw [(P _ o2 o1).2.1];exact hwas j j1 j2
   ·have a:x.part=5:=a;omega
   ·have j1:x.written < j:=j1;obtain ⟨o1,o2,o3⟩:=other j j2 (by omega);show (x.step m.opened v).2.verW c1 (x.m.buf.order.getD j 0)<=(x.step m.opened v).2.wd 2;rw [(P _ o2 o1).1,K2];exact rest j j1 j2
   ·refine ⟨n'+1,by omega,by omega,rfl,λ hle=>?_,λ _=>?_,λ h2=>?_⟩
    ·show (x.step m.opened v).2.verW c1 (Xr x)<=(x.step m.opened v).2.wd 2;rw [(P0 (by omega)).1,K2];exact v1 (by omega)
    ·show (x.step m.opened v).2.wasB c1 (Xr x)=(x.step m.opened v).2.nowB c1 (Xr x);rcases (show n'=0\/n'=1 by omega) with e|e
     ·rw [(P0 e).2.2,(P0 e).2.1,val0 e]
     ·rw [(P1 e).2.2,(P1 e).2.1];exact v2 (by omega)
    ·show (x.step m.opened v).2.verW c1 (Xr x)=(x.step m.opened v).2.wd 2+1;rw [(P1 (by omega)).1,val1 (by omega),K2]
  ·rw [e];have hlo2:x.written+1 < x.m.buf.order.length:=by rw [<-hs.was];exact hl2
   refine ⟨λ _ _ j j1 j2=>?_,λ a=>?_,λ _ y hy hc=>by rw [K2];exact al y hy hc,λ _ j j1 j2=>?_,λ _=>?_,λ _ b=>absurd b qui⟩
   ·have j1:x.written+1<=j:=j1;obtain ⟨o1,o2,o3⟩:=other j j2 (by omega);show x.was.getD j 0=(x.step m.opened v).2.nowB c1 (x.m.buf.order.getD j 0);rw [(P _ o2 o1).2.1];exact hwas j (by omega) j2
   ·have a:x.part=5:=a;omega
   ·have j1:x.written+1 < j:=j1;obtain ⟨o1,o2,o3⟩:=other j j2 (by omega);show (x.step m.opened v).2.verW c1 (x.m.buf.order.getD j 0)<=(x.step m.opened v).2.wd 2;rw [(P _ o2 o1).1,K2];exact rest j (by omega) j2
   ·obtain ⟨o1,o2,o3⟩:=other (x.written+1) hl2 (by omega);refine ⟨0,by omega,by omega,?_,λ _=>?_,λ a=>by omega,λ a=>by omega⟩
    ·unfold Z2.wr;simp only;rw [hs.k0,hs.k1];rfl
    ·show (x.step m.opened v).2.verW c1 (x.m.buf.all.getD (x.written+1) (0,0)).1<=(x.step m.opened v).2.wd 2;rw [Fk _ _ hlo2,(P _ o2 o1).1,K2];exact rest _ (by omega) hl2
  ·rw [e];refine ⟨λ _ b=>?_,λ a=>?_,λ a=>?_,λ a=>?_,λ a=>?_,λ _ b=>absurd b qui⟩
   ·have b:(7:Int)<=6:=b;omega
   ·have a:(7:Int)=5:=a;omega
   ·have a:(7:Int)=6:=a;omega
   ·have a:(7:Int)=6:=a;omega
   ·have a:(7:Int)=6:=a;omega
theorem Q5.wstep (h:Q5 m c0 c1 txs) (o:T0 c0 c1 m txs) (hi:txs[i]? =some ⟨raw,some (.wr x)⟩) (v:Nat) (hz:(z.g=some (.wr (x.step m.opened v).1)/\(x.step m.opened v).1.part≠9)\/(z.g=none/\(x.step m.opened v).1.part=9/\z.raw.reads=(x.step m.opened v).1.m.reads/\z.raw.writes=(x.step m.opened v).1.m.buf.all/\z.raw.tag=2)):Q5 (x.step m.opened v).2 c0 c1 (txs.set i z):=by
 have hs:=o.w i raw x hi;have hv:=h.wr i raw x hi;have b0:=o.k.b0;have p1:=hs.p1;have p8:=hs.p8;have hsm:=o.small;have lo:∀ n:Int,0<=n->n < 3+c1->n < m.ws.length:=λ n a b=>Uv o.k o.len n a b;have hzr:∀ x',z.g=some (.wr x')->x'=(x.step m.opened v).1:=by
  intro x' e;rcases hz with ⟨e2,_⟩|⟨e2,_⟩
  ·rw [e2] at e;simp at e;exact e.symm
  ·rw [e2] at e;cases e
 have hzy:∀ y,z.g≠some (.rd y):=by
  intro y e;rcases hz with ⟨e2,_⟩|⟨e2,_⟩
  ·rw [e2] at e;cases e
  ·rw [e2] at e;cases e
 have main:x.part<=5->Jw m (x.step m.opened v).2 c0 c1->(∀ n:Nat,2<=n->(n:Int) < 3+c1->(x.step m.opened v).2.wd n=m.wd n)->Q4 (x.step m.opened v).2 c0 c1 txs (x.step m.opened v).1->(x.step m.opened v).1.part≠9->Q5 (x.step m.opened v).2 c0 c1 (txs.set i z):=by
  intro h5 sm w hw h9;have k2:=w 2 (by omega) (by omega);refine h.writer o hi (by omega) (.inl k2) (λ n a b=>w n (by omega) b) (λ c st a b _=>sm.change a b) (λ _=>sm) (λ c a b=>by rw [(sm c a b).1,k2];exact h.ver c a b) (.inr (.inr ⟨h5,k2⟩)) (.inr k2) (λ x' e=>by rw [hzr x' e];exact hw) hzy (λ e=>?_);rcases hz with ⟨e2,_⟩|⟨_,e2,_⟩
  ·rw [e2] at e;cases e
  ·exact absurd e2 h9
 rcases (show x.part=1\/x.part=2\/x.part=3\/x.part=4\/x.part=5\/x.part=6\/x.part=7\/x.part=8 by omega) with hp|hp|hp|hp|hp|hp|hp|hp
 ·have e:=Rk (v:=v) o.k o.len hp;have w:∀ n:Nat,n≠0->(x.step m.opened v).2.wd n=m.wd n:=λ n hn=>by
   rw [e];show (m.opened.add 0 1).wd n=_;rw [Zh.add_wd (by omega) (lo 0 (by omega) (by omega)),if_neg (by omega)]
  exact main (by omega) (U6 b0 (λ n hn=>w n (by omega))) (λ n a _=>w n (by omega)) (Q4.low (by rw [e];show (2:Int)<=3;omega)) (by rw [e];show (2:Int)≠9;omega)
 ·have e:=Ri (v:=v) o.k o.len hp;have ews:(x.step m.opened v).2.ws=m.ws:=by rw [e];exact Zh.load_ws _ _
  have w:∀ n:Nat,(x.step m.opened v).2.wd n=m.wd n:=λ n=>by unfold Zh.wd;rw [ews]
  have ep:(x.step m.opened v).1.part<=3:=by rw [e];show (if m.wd 1=x.ticket then (3:Int) else 2)<=3;split <;> omega
  exact main (by omega) (Ue ews) (λ n _ _=>w n) (Q4.low ep) (by omega)
 ·have e:=Rh (v:=v) o.k o.len hp;have ews:(x.step m.opened v).2.ws=m.ws:=by rw [e];exact Zh.load_ws _ _
  have w:∀ n:Nat,(x.step m.opened v).2.wd n=m.wd n:=λ n=>by unfold Zh.wd;rw [ews]
  obtain ⟨l1,l2,l3⟩:=hs.low (by omega);have lw:x.was.length=0:=by rw [hs.was,l2];rfl
  refine main (by omega) (Ue ews) (λ n _ _=>w n) ?_ (by rw [e];show (4:Int)≠9;omega);rw [e];refine ⟨λ _ _ j _ j2=>?_,λ a=>?_,λ a=>?_,λ a=>?_,λ a=>?_,λ _ _ p hp2=>?_⟩
  ·have j2:j < x.was.length:=j2;omega
  ·have a:(4:Int)=5:=a;omega
  ·have a:(4:Int)=6:=a;omega
  ·have a:(4:Int)=6:=a;omega
  ·have a:(4:Int)=6:=a;omega
  ·have hp2:p∈x.m.reads:=hp2;rw [l1] at hp2;cases hp2
 ·have q:=hv.ran hs hp (λ y hy=>by obtain ⟨j,raw2,hj⟩:=hy;exact (o.r j raw2 y hj).t0) (No o.k o.len hs hp v);have w:∀ n:Nat,(x.step m.opened v).2.wd n=m.wd n:=λ n=>by unfold Zh.wd;rw [q.2.1]
  have sm:Jw m (x.step m.opened v).2 c0 c1:=Ue q.2.1;refine main (by omega) sm (λ n _ _=>w n) ?_ q.2.2;rcases Jz.step o.k o.len hs v with ⟨e8,_⟩|hs1
  ·omega
  ·exact q.1.same hs1.bc hs1.was (λ a=>hs1.cell a) sm (w 2) (λ y hy _=>.inl ⟨y,hy,rfl,rfl⟩)
 ·have q:=hv.scanned h o hi hp v;have w:∀ n:Nat,(x.step m.opened v).2.wd n=m.wd n:=λ n=>by unfold Zh.wd;rw [q.2.1]
  have sm:Jw m (x.step m.opened v).2 c0 c1:=Ue q.2.1;refine main (by omega) sm (λ n _ _=>w n) ?_ q.2.2;rcases Jz.step o.k o.len hs v with ⟨e8,_⟩|hs1
  ·omega
  ·exact q.1.same hs1.bc hs1.was (λ a=>hs1.cell a) sm (w 2) (λ y hy _=>.inl ⟨y,hy,rfl,rfl⟩)
 ·obtain ⟨k2,w,ch,ver,pt,wv⟩:=hv.put o hi hp v;refine h.writer o hi (by omega) (.inl k2) (λ n _ b=>w n b) (λ c st a b hst=>by rw [hst hp];exact ch c a b) (λ a=>absurd hp a) (λ c a b=>by rw [k2];exact ver h.ver c a b) ?_ (.inl (by omega)) (λ x' e=>by rw [hzr x' e];exact wv) hzy (λ e=>?_)
  ·rcases hz with ⟨e2,_⟩|⟨_,e2,_⟩
   ·exact .inr (.inl ⟨_,e2,pt⟩)
   ·omega
  ·rcases hz with ⟨e2,_⟩|⟨_,e2,_⟩
   ·rw [e2] at e;cases e
   ·omega
 ·have e:=Rg (s:=m) (v:=v) hp;have hst:=o.stamp i raw x hi (by omega) (by omega);have eu:u64 (x.stamp+1)=m.wd 2+1:=by rw [hst];exact Bt (by omega) (by omega)
  have w:∀ n:Nat,(x.step m.opened v).2.wd n=if 2=n then m.wd 2+1 else m.wd n:=λ n=>by
   rw [e];show (m.opened.store 2 (u64 (x.stamp+1))).wd n=_;rw [eu];exact Zh.store_wd (by omega) (lo 2 (by omega) (by omega)) _ n
  have k2:(x.step m.opened v).2.wd 2=m.wd 2+1:=by rw [w,if_pos rfl]
  have sm:Jw m (x.step m.opened v).2 c0 c1:=U6 b0 (λ n hn=>by rw [w,if_neg (by omega)]);refine h.writer o hi (by omega) (.inr hp) (λ n a b=>by rw [w,if_neg (by omega)]) (λ c st a b _=>sm.change a b) (λ _=>sm) (λ c a b=>?_) (.inl (λ c a b=>?_)) (.inl (by omega)) (λ x' e'=>?_) hzy (λ e'=>?_)
  ·have:=h.ver c a b;rw [(sm c a b).1,k2];omega
  ·have:=h.ver c a b;rw [(sm c a b).1,k2];omega
  ·rw [hzr x' e',e];refine ⟨λ _ b=>?_,λ a=>?_,λ a=>?_,λ a=>?_,λ a=>?_,λ _ b p hp2=>?_⟩
   ·have b:(8:Int)<=6:=b;omega
   ·have a:(8:Int)=5:=a;omega
   ·have a:(8:Int)=6:=a;omega
   ·have a:(8:Int)=6:=a;omega
   ·have a:(8:Int)=6:=a;omega
   ·obtain ⟨⟨q1,q2⟩,q3⟩:=hv.qui (by omega) b p hp2;rw [e] at sm;exact ⟨⟨q1,q2⟩,by rw [(sm _ q1 q2).2.1];exact q3⟩
  ·rcases hz with ⟨e2,_⟩|⟨_,e2,_⟩
   ·rw [e2] at e';cases e'
   ·rw [e] at e2;have e2:(8:Int)=9:=e2;omega
 ·have e:=Rf (s:=m) (v:=v) hp;have w:∀ n:Nat,n≠1->(x.step m.opened v).2.wd n=m.wd n:=λ n hn=>by
   rw [e];exact Zh.store_out _ (by omega)
  have k2:=w 2 (by omega);have sm:Jw m (x.step m.opened v).2 c0 c1:=U6 b0 (λ n hn=>w n (by omega));refine h.writer o hi (by omega) (.inl k2) (λ n a b=>w n (by omega)) (λ c st a b _=>sm.change a b) (λ _=>sm) (λ c a b=>by rw [(sm c a b).1,k2];exact h.ver c a b) (.inl (λ c a b=>by rw [(sm c a b).1,k2];exact h.lowL o hi (by omega) (by omega) (by omega) c a b)) (.inl (by omega)) (λ x' e'=>?_) hzy (λ _=>?_)
  ·rcases hz with ⟨_,e2⟩|⟨e2,_⟩
   ·rw [e] at e2;exact absurd rfl e2
   ·rw [e2] at e';cases e'
  ·rcases hz with ⟨_,e2⟩|⟨_,_,e3,e4,e5⟩
   ·rw [e] at e2;exact absurd rfl e2
   ·by_cases hb:x.m.buf.order=[]
    ·right;rw [e3,e];intro p hp2 q hq he;rw [(hv.qui (by omega) hb p hp2).2,(hv.qui (by omega) hb q hq).2,he]
    ·left;refine ⟨e5,?_⟩;rw [e4,e];show x.m.buf.all≠[];unfold Xj.all;simpa using hb
end
section
variable {m m':Zh} {c0 c1:Int} {txs:List Gq} {i v t:Nat} {z:Gq} {x x':Z2} {y y':Yg} {raw:Zv} {s:Zq}
theorem Qj.txOk (h:Qj s) (k:Ym s):T0 s.c0 s.c1 s.mem s.txs:=by
 refine ⟨k.cfg,k.len,λ i raw x hi=>?_,λ i raw y hi=>?_,λ i j r1 r2 y1 y2 h1 h2 e=>?_,λ i j r1 r2 x1 x2 h1 h2 p q=>h.alone h1 h2 p q,h.w,(h.small k).2.2⟩
 ·obtain ⟨t,ht,_,_,g⟩:=k.tx i raw _ hi;exact g
 ·obtain ⟨t,ht,_,_,g⟩:=k.tx i raw _ hi;have g:Ks s.c0 s.c1 t y:=g;rw [g.th];exact g
 ·obtain ⟨t1,ht1,hc1,_,g1⟩:=k.tx i _ _ h1;obtain ⟨t2,ht2,hc2,_,g2⟩:=k.tx j _ _ h2;have g1:Ks s.c0 s.c1 t1 y1:=g1;have g2:Ks s.c0 s.c1 t2 y2:=g2;rw [g1.th,g2.th] at e;have e:t1=t2:=by omega
  subst e;rw [hc1] at hc2;exact Zo_ hc2
theorem Q5.push (h:Q5 m c0 c1 txs) (hz:(∃ x,z.g=some (.wr x)/\x.part=1)\/(∃ y,z.g=some (.rd y)/\y.com.n=0)):Q5 m c0 c1 (txs++[z]):=by
 have T:∀ (j:Nat) (u:Gq),(txs++[z])[j]? =some u->txs[j]? =some u\/u=z:=by
  intro j u hj;rw [List.getElem?_append] at hj;split at hj
  ·exact .inl hj
  ·rw [List.getElem?_singleton] at hj;split at hj
   ·exact .inr (Zo_ hj).symm
   ·cases hj
 have zr:∀ y raw,(⟨raw,some (.rd y)⟩:Gq)=z->y.com.n=0:=by
  intro y raw e;subst e;rcases hz with ⟨x,e,_⟩|⟨y',e,hn⟩
  ·cases e
  ·simp at e;rw [e];exact hn
 have zw:∀ x raw,(⟨raw,some (.wr x)⟩:Gq)=z->x.part=1:=by
  intro x raw e;subst e;rcases hz with ⟨x',e,hn⟩|⟨y',e,_⟩
  ·simp at e;rw [e];exact hn
  ·cases e
 refine ⟨h.ver,?_,λ j raw y hj hn=>?_,λ j raw y hj hn=>?_,λ j raw y hj hn=>?_,λ j raw y hj hn=>?_,λ j raw x hj=>?_,λ j raw hj=>?_⟩
 ·rcases h.low with q|⟨j,raw,x,hj,hp⟩
  ·exact .inl q
  ·right;refine ⟨j,raw,x,?_,hp⟩;have:=(List.getElem?_eq_some_iff.1 hj).1;rw [List.getElem?_append_left this];exact hj
 ·rcases T j _ hj with q|q
  ·exact h.cl j raw y q hn
  ·have:=zr y raw q;omega
 ·rcases T j _ hj with q|q
  ·exact h.cen j raw y q hn
  ·have:=zr y raw q;omega
 ·rcases T j _ hj with q|q
  ·exact h.st j raw y q hn
  ·have:=zr y raw q;omega
 ·rcases T j _ hj with q|q
  ·exact h.rd j raw y q hn
  ·have:=zr y raw q;omega
 ·have R:∀ y,Jx (txs++[z]) y->y.com.n=3->Jx txs y:=by
   rintro y ⟨k,raw2,hk⟩ hn;rcases T k _ hk with q|q
   ·exact ⟨k,raw2,q⟩
   ·have:=zr y raw2 q;omega
  rcases T j _ hj with q|q
  ·have w:=h.wr j raw x q;exact ⟨w.was,λ a c y b hy hn=>w.scan a c y b (R y hy hn) hn,λ a y hy hn=>w.all a y (R y hy hn) hn,w.rest,w.now,w.qui⟩
  ·exact Q4.low (by have:=zw x raw q;omega)
 ·rcases T j _ hj with q|q
  ·exact h.old j raw q
  ·subst q;rcases hz with ⟨x,e,_⟩|⟨y,e,_⟩
   ·cases e
   ·cases e
def Zq.RI (s:Zq):Prop:=Q5 s.mem s.c0 s.c1 s.txs
theorem Zq.RI.ready (h:s.RI) (t:Nat):(s.ready t).RI:=by
 unfold Zq.ready;split
 ·show Q5 s.mem s.c0 s.c1 (s.txs++[_]);refine Q5.push h ?_;show (∃ x,some (Zq.newG {s with steps:=s.steps+1} t)=some (.wr x)/\x.part=1)\/(∃ y,some (Zq.newG {s with steps:=s.steps+1} t)=some (.rd y)/\y.com.n=0);unfold Zq.newG;split
  ·exact .inl ⟨_,rfl,rfl⟩
  ·exact .inr ⟨_,rfl,rfl⟩
 ·exact h
theorem Zq.RI.step (h:s.RI) (hs:Qj s) (k:Ym s) (ht:t < s.ths.length) (hn:s.steps+1 < 1000000000) (v:Nat):(s.step t v).RI:=by
 unfold Zq.step;cases hf:(s.th t).fin with
 |true=>rw [if_pos rfl];exact h
 |false=>
  rw [if_neg (by simp)];obtain ⟨hr,hl,i,hc⟩:=k.ready ht hf;have ht':t < (s.ready t).ths.length:=by rw [hl];exact ht
  obtain ⟨raw,g,hx,_⟩:=hr.cur t i ht' hc;rw [Bh hc hx];have hi:=h.ready t;have hsr:=hs.ready t hn;have o:=hsr.txOk hr;generalize s.ready t=q at *
  unfold Zq.fired;obtain ⟨u,hu,_,_,gs⟩:=hr.tx i raw g hx;cases g with
  |wr x=>
   have gs:Jz q.c0 q.c1 x:=gs;split
   ·rename_i ho;have ho:((x.step q.mem.opened v).1.part==9)=true:=ho;show Q5 (x.step q.mem.opened v).2 q.c0 q.c1 _;refine Q5.wstep hi o hx v (.inr ⟨rfl,by simpa using ho,rfl,rfl,?_⟩);show (x.step q.mem.opened v).1.tag=2;rcases Jz.step o.k o.len gs v with ⟨_,e⟩|e
    ·rw [e];exact gs.tag
    ·exact e.tag
   ·rename_i ho;have ho:¬ ((x.step q.mem.opened v).1.part==9)=true:=ho;show Q5 (x.step q.mem.opened v).2 q.c0 q.c1 _;exact Q5.wstep hi o hx v (.inl ⟨rfl,by simpa using ho⟩)
  |rd y=>
   split
   ·rename_i ho;have ho:((y.step q.mem.opened v).1.part==4)=true:=ho;show Q5 (y.step q.mem.opened v).2 q.c0 q.c1 _;exact Q5.rstep hi o hx v (.inr ⟨rfl,by simpa using ho,rfl⟩)
   ·rename_i ho;have ho:¬ ((y.step q.mem.opened v).1.part==4)=true:=ho;show Q5 (y.step q.mem.opened v).2 q.c0 q.c1 _;exact Q5.rstep hi o hx v (.inl ⟨rfl,by simpa using ho⟩)
theorem Zq.RI.cons (h:s.RI) (hs:Qj s) (k:Ym s):∀ d∈s.view,Nh d:=by
 intro d hd;obtain ⟨x,hx,rfl⟩:=List.mem_map.1 hd;obtain ⟨i,hi,rfl⟩:=List.mem_iff_getElem.1 hx;have hi':s.txs[i]? =some s.txs[i]:=List.getElem?_eq_getElem hi;have o:=hs.txOk k;generalize s.txs[i]=z at *
 obtain ⟨raw,g⟩:=z;cases g with
 |none=>exact h.old i raw hi'
 |some g=>
  cases g with
  |wr x=>
   have w:=h.wr i raw x hi';have sh:=o.w i raw x hi'
   by_cases hb:x.m.buf.order=[]
   ·right;show ∀ p∈x.m.reads,∀ q∈x.m.reads,p.1=q.1->p.2=q.2
    by_cases hp:4<=x.part
    ·intro p hp2 q hq e;rw [(w.qui hp hb p hp2).2,(w.qui hp hb q hq).2,e]
    ·intro p hp2;rw [(sh.low (by omega)).1] at hp2;cases hp2
   ·left;refine ⟨sh.tag,?_⟩;show x.m.buf.all≠[];unfold Xj.all;simpa using hb
  |rd y=>
   have sh:=o.r i raw y hi';right;show ∀ p∈y.m.reads,∀ q∈y.m.reads,p.1=q.1->p.2=q.2
   by_cases hn:y.com.n=3
   ·obtain ⟨g,_,R,_⟩:=h.rd i raw y hi' hn;intro p hp2 q hq e;rw [R p hp2,R q hq,e]
   ·intro p hp2;have hp:y.part=1:=by
     by_cases hp:y.part=1
     ·exact hp
     ·exact absurd (sh.n3 hp) hn
    rw [(sh.low hp).1] at hp2;cases hp2
theorem Vv.ri {e0 s:Zq} {ts:List Nat} (h:Vv e0 ts s) (k:Ym e0) (hs:Qj e0) (hi:e0.RI) (ht:∀ t∈ts,t < e0.ths.length) (hn:e0.steps+ts.length < 1000000000):s.RI:=by
 induction h with
 |nil s=>exact hi
 |@cons s r t l v h ih=>
  have q:=k.step (ht t (by simp)) v;have e:=(Ge s t v).1;simp only [List.length_cons] at hn;exact ih q.1 (hs.step k (ht t (by simp)) (by omega) v) (hi.step hs k (ht t (by simp)) (by omega) v) (λ u hu=>by rw [q.2];exact ht u (by simp [hu])) (by omega)
end
section
variable {c0 c1 c2 c3:Int} {start:List Nat} {progs:List (Int×List Xf)} {cs:List (List (Int×List Nat))} {w w0:World} {x:Nat} {e0 s:Zq} {ts:List Nat}
theorem H9 (s:Zh) (p4 c:Int) (h4:0<=p4) (hc:0<=c) (xs:List Nat) (h0:s.wd (p4+3 * c).toNat=0):∀ k,(Vg s p4 xs k).wd (p4+3 * c).toNat=0
 |0=>h0
 |k+1=>by
  have P:∀ (s:Zh) (i v:Int),i≠p4+3 * c->0<=i->(s.poke i v).wd (p4+3 * c).toNat=s.wd (p4+3 * c).toNat:=by
   intro s i v hi h0;unfold Zh.poke;split
   ·rw [Zh.put_wd,if_neg (by omega)]
   ·rfl
  have Z:∀ (s:Zh) (i:Int),s.wd (p4+3 * c).toNat=0->(s.poke i 0).wd (p4+3 * c).toNat=0:=by
   intro s i h;unfold Zh.poke;split
   ·rw [Zh.put_wd];split
    ·rfl
    ·exact h
   ·exact h
  rw [Vg];refine Z _ _ ?_;rw [P _ _ _ (by omega) (by omega)];exact Z _ _ (H9 s p4 c h4 hc xs h0 k)
theorem newE_ri (hc:Yq c0 c1 c2 c3):(U1 c0 c1 c2 c3 start progs cs).RI:=by
 have h1:1<=c1:=hc.2.2.1;have hv:∀ c,0<=c->c < c0->(U1 c0 c1 c2 c3 start progs cs).mem.verW c1 c=0:=by
  intro c a b;show (Q0 (.fresh (Zw c0 c1).toNat) (Z4 c1) start).wd (Z4 c1+3 * c+0).toNat=0;rw [Int.add_zero];have e:(Zh.fresh (Zw c0 c1).toNat).wd (Z4 c1+3 * c).toNat=0:=by
   unfold Zh.wd Zh.fresh;rw [List.getD_eq_getElem?_getD,List.getElem?_replicate];split <;> rfl
  unfold Q0;split
  ·exact H9 _ _ _ (by unfold Z4;omega) a _ e _
  ·exact e
 have hw:=Hk (start:=start) (progs:=progs) (cs:=cs) hc 2 (by omega);refine ⟨λ c a b=>?_,.inl (λ c a b=>?_),λ i raw y hi=>?_,λ i raw y hi=>?_,λ i raw y hi=>?_,λ i raw y hi=>?_,λ i raw x hi=>?_,λ i raw hi=>?_⟩
 ·have:=hv c a b;show (U1 c0 c1 c2 c3 start progs cs).mem.verW c1 c<=_;rw [this,hw];omega
 ·have:=hv c a b;show (U1 c0 c1 c2 c3 start progs cs).mem.verW c1 c<=_;rw [this,hw];omega
 ·cases hi
 ·cases hi
 ·cases hi
 ·cases hi
 ·cases hi
 ·cases hi
theorem Xy.cons (h:Xy w0 x e0 ts s w) (hr:e0.RI) (hn:ts.length < 1000000000):∀ d∈s.view,Nh d:=
 (h.run.ri h.ok h.si hr h.lt (by rw [h.z];omega)).cons (h.siS hn).1 h.okS.1
end
end Go.Proofs.YtkhonmhnchdpkaaGreat
