/- A part of the proof; no condition. -/
import Derived.Test.YtkhonmhnchdpkaaGreatB29
import Derived.Test.YtkhonmhnchdpkaaGreatB30
set_option maxRecDepth 100000
set_option maxHeartbeats 40000000
namespace Go.Proofs.YtkhonmhnchdpkaaGreat
open Go.RowKit _root_.Go.Proofs.Tryz
open Go renaming World→W
open Value renaming int→U,pointer→E,slice→L,float→Z
open IntKind renaming i64→Y
open FloatKind renaming f64→V
open Option renaming some→I,none→O
open Ending renaming returned→R_
open _root_.Go.Proofs.Tryz renaming prog→N
open List renaming getD_eq_getElem?_getD→G_
section
variable {m m':Zh} {c0 c1 t:Int} {x:Zv} {y:Z8} {r:Yu} {v i:Nat} {s:Zk} {g:Qt}
def Zk.left (s:Zk):Nat:=(s.c2 - s.used).toNat
theorem do_used {i:Xg} {r:Zk×Xh} (he:s.xt v i=.ok r):r.1.used=s.used:=by
 unfold Zk.xt at he;split at he
 ·unfold Zk.zx at he;split at he
  ·cases he
  ·split at he <;> (simp only [Except.ok.injEq] at he;subst he;rfl)
 split at he
 ·unfold Zk.zh at he;split at he
  ·cases he
  ·split at he
   ·cases he
   ·split at he
    ·cases he
    ·simp only [Except.ok.injEq] at he;subst he;rfl
 split at he
 ·simp only [Except.ok.injEq] at he;subst he;rfl
 split at he
 ·simp only [Except.ok.injEq] at he;subst he;rfl
 split at he
 ·simp only [Except.ok.injEq] at he;subst he;rfl
 split at he
 ·simp only [Except.ok.injEq] at he;subst he;rfl
 split at he
 ·simp only [Except.ok.injEq] at he;subst he;rfl
 split at he
 ·split at he <;> (simp only [Except.ok.injEq] at he;subst he;rfl)
 ·simp only [Except.ok.injEq] at he;subst he;obtain ⟨l,k,p,f,o,e⟩:=Le v i s;show (s.reckon v i).used=s.used;rw [e]
theorem Hn (hw:s.waits=false) (o:Ym s) (v:Nat):(s.step v).2.kind=4\/(s.step v).1.left+1<=s.left:=by
 have m:=Qw v hw;have u1:=o.xk;have hc:=m.c2;unfold Zk.left;rw [hc];have main:(s.step v).2.kind=4\/((s.step v).1.used=s.used+1/\s.used≠s.c2):=by
  unfold Zk.step;rw [Q9 (by rw [hw];simp)];split
  ·exact .inl J
  split
  ·exact .inl J
  split
  ·exact .inl J
  rename_i hu;split
  ·exact .inl J
  unfold Zk.go;split
  ·exact .inl J
  split
  ·rename_i r he;exact .inr ⟨do_used he,hu⟩
  ·exact .inl J
 rcases main with q|⟨q,q2⟩
 ·exact .inl q
 ·right;omega
def Hu:Option Z4->Int
 |some c=>c.nx
 |none=>0
def Zv.work (x:Zv):Nat:=
 (if x.part=8 then 1 else if x.part=7 then 2 else if x.part=6 then 2+3 * ((x.ql.length:Int) - x.written) - x.wr.n else if x.part=5 then 2+3 * (x.ql.length:Int)+(x.c1 - Hu x.scan) else if x.part=4 then 107+(x.m.left:Int) else if x.part=3 then 108+(x.m.left:Int) else if x.part=2 then 109+(x.m.left:Int) else 110+(x.m.left:Int):Int).toNat
def Zv.blocked (m:Zh) (x:Zv):Prop:=
 (x.part=2/\m.wd 1≠x.qc)\/(x.part=5/\0<=Hu x.scan/\Hu x.scan < x.c1/\m.wd (3+Hu x.scan).toNat≠0)
theorem A8 (h:x.part=6):x.work=(2+3 * ((x.ql.length:Int) - x.written) - x.wr.n).toNat:=by simp [Zv.work,h]
section
theorem w_work (k:Bc c0 c1) (hl:(m.ws.length:Int)=Zw c0 c1) (h:Jv c0 c1 x) (v:Nat):
  (x.blocked m/\(x.step m.opened v).1.part≠9/\(x.step m.opened v).2.ws=m.ws/\(x.step m.opened v).1.work=x.work)\/
  ((x.step m.opened v).1.part=9/\1<=x.work)\/((x.step m.opened v).1.part≠9/\(x.step m.opened v).1.work+1<=x.work):=by
 have p1:=h.p1;have p8:=h.p8;have hk1:=h.k1;have b1:=k.b1;have hwl:x.ql.length<=32:=by
  have a:=h.ql;have b:=h.buf.room;have c:=h.qy;omega
 rcases (show x.part=1\/x.part=2\/x.part=3\/x.part=4\/x.part=5\/x.part=6\/x.part=7\/x.part=8 by omega) with hp|hp|hp|hp|hp|hp|hp|hp
 ·rw [Nf k hl hp];right;right;refine ⟨by simp,?_⟩;simp [Zv.work,hp];omega
 ·rw [Nd k hl hp]
  by_cases ht:m.wd 1=x.qc
  ·right;right;simp only [P9 ht];refine ⟨by simp,?_⟩;simp [Zv.work,hp];omega
  ·left;simp only [Q9 ht];refine ⟨.inl ⟨hp,ht⟩,by simp,Zh.zp _ _,?_⟩;simp [Zv.work,hp]
 ·rw [Nc k hl hp];right;right;refine ⟨by simp,?_⟩;simp [Zv.work,hp];omega
 ·have sl:=Hn h.wt h.mo v;right;right;rcases Kv k hl h hp v with ⟨hk,e⟩|⟨hk,e⟩|⟨hk,hf,e⟩|⟨hk,hh,e⟩|⟨hk,hh,e⟩
  ·rw [e];refine ⟨by show x.part≠9;omega,?_⟩;simp [Zv.work,hp];omega
  ·rw [e];refine ⟨by show x.part≠9;omega,?_⟩;have e2:∀ n,((x.m.step v).1.xl n).left=(x.m.step v).1.left:=λ n=>J;simp [Zv.work,hp,e2];omega
  ·rw [e];refine ⟨by show x.part≠9;omega,?_⟩;simp [Zv.work,hp];omega
  ·rw [e];refine ⟨by show (5:Int)≠9;omega,?_⟩;simp [Zv.work,hp,Hu,Kx];omega
  ·rw [e];refine ⟨by show (8:Int)≠9;omega,?_⟩;simp [Zv.work,hp];omega
 ·obtain ⟨nx,po,n0,n1,esc,ews,q⟩:=Bs (v:=v) k hl h hp;have kv:=h.wn (by omega);have bn:=h.nb (by omega);have enx:Hu x.scan=nx:=by rw [esc];rfl
  rcases q with ⟨hb,e⟩|⟨_,_,e⟩|⟨_,q2,e⟩
  ·left;rw [e];refine ⟨.inr ⟨hp,by rw [enx];exact n0,by rw [enx,hk1];exact n1,by rw [enx];exact λ q=>hb (.inl q)⟩,by show x.part≠9;omega,ews,?_⟩;simp [Zv.work,hp,esc,Hu]
  ·right;right;rw [e];refine ⟨by show x.part≠9;omega,?_⟩;simp [Zv.work,hp,esc,Hu];omega
  ·right;right;rw [e]
   by_cases hz:0 < x.ql.length
   ·simp only [P9 hz];refine ⟨by simp,?_⟩;simp [Zv.work,hp,esc,Hu,Zv.wr,bn,kv,wrOf];omega
   ·simp only [Q9 hz];refine ⟨by simp,?_⟩;simp [Zv.work,hp,esc,Hu];omega
 ·obtain ⟨n,n0,n3,en,em,q⟩:=Ku (v:=v) k hl h hp;have hlt:=(h.wr hp).1;have en2:x.wr.n=n:=by rw [en];rfl
  right;right;rcases q with ⟨_,e⟩|⟨hn,_,e⟩|⟨hn,hl,e⟩
  ·rw [e];refine ⟨by show x.part≠9;omega,?_⟩;have e2:({x with back:=I (x.kv c0 c1 (n+1))}:Zv).wr.n=n+1:=J;rw [A8 hp,A8 (x:={x with back:=I (x.kv c0 c1 (n+1))}) hp,e2,en2];show (2+3 * ((x.ql.length:Int) - x.written) - (n+1)).toNat+1<=_;omega
  ·rw [e];refine ⟨by show x.part≠9;omega,?_⟩;have e2:({x with back:=O,written:=x.written+1}:Zv).wr.n=0:=J;rw [A8 hp,A8 (x:={x with back:=O,written:=x.written+1}) hp,e2,en2];show (2+3 * ((x.ql.length:Int) - (x.written+1:Nat)) - 0).toNat+1<=_;omega
  ·rw [e];refine ⟨by simp,?_⟩;simp only [Zv.work,hp,en2];simp;omega
 ·rw [Nb hp];right;right;refine ⟨by simp,?_⟩;simp [Zv.work,hp]
 ·rw [Na hp];right;left;exact ⟨J,by simp [Zv.work,hp]⟩
end
def Sv:Option Yu->Nat
 |some r=>(4 - r.pa).toNat
 |none=>0
def Z8.work (y:Z8):Nat:=
 if y.part=3 then 1 else if y.part=2 then 2+5 * y.m.left+Sv y.read else 2+5 * y.m.left+(3 - y.qh.n).toNat
theorem Wd (r:Yu) (w:Int) (h0:0<=r.pa) (h3:r.pa<=3):r.pa+1<=(r.qz w).pa:=by
 unfold Yu.qz;split
 ·show r.pa+1<=(if r.st < w then (3:Int) else 1);split <;> omega
 ·split
  ·show r.pa+1<=(2:Int);omega
  ·split
   ·show r.pa+1<=(if w=r.ve then (4:Int) else 3);split <;> omega
   ·show r.pa+1<=(4:Int);omega
theorem r_work (k:Bc c0 c1) (hl:(m.ws.length:Int)=Zw c0 c1) (h:Ks c0 c1 t y) (v:Nat):
  ((y.step m.opened v).1.part=4/\1<=y.work)\/((y.step m.opened v).1.part≠4/\(y.step m.opened v).1.work+1<=y.work):=by
 have p1:=h.p1;have p3:=h.p3;have ci:=h.ci.lo;rcases (show y.part=1\/y.part=2\/y.part=3 by omega) with hp|hp|hp
 ·right;have hrn:y.read=O:=by
   cases hr:y.read with
   |none=>rfl
   |some r=>exact absurd (h.rd r hr).1 (by omega)
  rcases Kz (v:=v) k hl h hp with ⟨hn,e,_⟩|⟨hn,e,_⟩|⟨hn,e,_⟩
  ·rw [e];refine ⟨by simp,?_⟩;simp [Z8.work,hp,hn]
  ·rw [e];refine ⟨by simp,?_⟩;simp [Z8.work,hp,hn]
  ·rw [e];refine ⟨by simp,?_⟩;simp [Z8.work,hp,hn,hrn,Sv]
 ·obtain ⟨_,q⟩:=Bv k hl h hp v;right;rcases q with ⟨r,hr,e⟩|⟨hr,h1,e,ok⟩|⟨hr,h4,e⟩|⟨hr,h0,e⟩
  ·have ok:=(h.rd r hr).2.2;have tp:=Wd r (m.cw c1 r.c r.qu) ok.gd ok.pa3;have a0:=ok.gd;have a3:=ok.pa3;rw [e];rcases (Jc k hl ok).2 with ⟨_,e2⟩|⟨_,e2⟩
   ·rw [e2];refine ⟨by show y.part≠4;omega,?_⟩;have e3:∀ n,(y.m.xl n).left=y.m.left:=λ n=>J;simp [Z8.work,hp,hr,Sv,e3];omega
   ·rw [e2];refine ⟨by show y.part≠4;omega,?_⟩;simp [Z8.work,hp,hr,Sv];omega
  ·have sl:=Hn (h.nw hr) h.mo v;have tp:=Wd (Xu c0 c1 (y.m.step v).2.cell y.qh.st) (m.cw c1 (Xu c0 c1 (y.m.step v).2.cell y.qh.st).c (Xu c0 c1 (y.m.step v).2.cell y.qh.st).qu) ok.gd ok.pa3;have a0:(Xu c0 c1 (y.m.step v).2.cell y.qh.st).pa=0:=J;rw [e];rcases (Jc k hl ok).2 with ⟨_,e2⟩|⟨_,e2⟩
   ·rw [e2];refine ⟨by show y.part≠4;omega,?_⟩;have e3:∀ n,((y.m.step v).1.xl n).left=(y.m.step v).1.left:=λ n=>J;simp [Z8.work,hp,hr,Sv,e3];omega
   ·rw [e2];refine ⟨by show y.part≠4;omega,?_⟩;simp [Z8.work,hp,hr,Sv];omega
  ·rw [e];refine ⟨by simp,?_⟩;simp [Z8.work,hp];omega
  ·have sl:=Hn (h.nw hr) h.mo v;rw [e];refine ⟨by show y.part≠4;omega,?_⟩;simp [Z8.work,hp,hr,Sv];omega
 ·left;rw [Nq k h hp];exact ⟨J,by simp [Z8.work,hp]⟩
def Qt.work:Qt->Nat
 |.wr x=>x.work
 |.rd y=>y.work
def Qt.blocked (m:Zh):Qt->Prop
 |.wr x=>x.blocked m
 |.rd _=>False
theorem g_work (k:Bc c0 c1) (hl:(m.ws.length:Int)=Zw c0 c1) (h:Rp c0 c1 t g) (v:Nat):
  (g.blocked m/\(g.step m.opened v).1.qf=false/\(g.step m.opened v).2.ws=m.ws/\(g.step m.opened v).1.work=g.work)\/
  ((g.step m.opened v).1.qf=true/\1<=g.work)\/((g.step m.opened v).1.qf=false/\(g.step m.opened v).1.work+1<=g.work):=by
 cases g with
 |wr x=>
  rcases w_work k hl h v with ⟨a,b,c,d⟩|⟨a,b⟩|⟨a,b⟩
  ·exact .inl ⟨a,by show ((x.step m.opened v).1.part==9)=false;simpa using b,c,d⟩
  ·exact .inr (.inl ⟨by show ((x.step m.opened v).1.part==9)=true;simpa using a,b⟩)
  ·exact .inr (.inr ⟨by show ((x.step m.opened v).1.part==9)=false;simpa using a,b⟩)
 |rd y=>
  rcases r_work k hl h v with ⟨a,b⟩|⟨a,b⟩
  ·exact .inr (.inl ⟨by show ((y.step m.opened v).1.part==4)=true;simpa using a,b⟩)
  ·exact .inr (.inr ⟨by show ((y.step m.opened v).1.part==4)=false;simpa using a,b⟩)
theorem E7 {c0 c1 c2 c3 tag:Int} {code:List Xg} {args:List Nat} (h:c2<=60):(Ul c0 c1 c2 c3 tag code args).work<=399:=by
 have e:(Ul c0 c1 c2 c3 tag code args).m.left<=60:=by show (c2 - 0).toNat<=60;omega
 have e1:(Ul c0 c1 c2 c3 tag code args).part=1:=J;simp [Zv.work,e1];omega
theorem E8 {c0 c1 c2 c3 th tag:Int} {code:List Xg} {args:List Nat} (h:c2<=60):(Ug c0 c1 c2 c3 th tag code args).work<=399:=by
 have e:(Ug c0 c1 c2 c3 th tag code args).m.left<=60:=by show (c2 - 0).toNat<=60;omega
 have e1:(Ug c0 c1 c2 c3 th tag code args).part=1:=J;have e2:(Ug c0 c1 c2 c3 th tag code args).qh.n=0:=J;simp [Z8.work,e1,e2];omega
end
section
variable {m m':Zh} {c0 c1:Int} {x:Zv} {y:Z8} {v i n t:Nat} {g:Qt} {qe:List Vb} {z:Vb} {raw:Zu} {s r:Zn} {l:List Nat}
structure Us (m:Zh) (n:Nat) (qe:List Vb):Prop where
 on:∀ k,m.wd 1<=k->k < m.wd 0->∃ (i:Nat) (raw:Zu) (x:Zv),qe[i]? =I ⟨raw,I (.wr x)⟩/\2<=x.part/\x.qc=k
 ud:∀ t:Nat,t < n->m.wd (3+t)≠0->∃ (i:Nat) (raw:Zu) (y:Z8),qe[i]? =I ⟨raw,I (.rd y)⟩/\y.thread=t
theorem Us.push (h:Us m n qe) (z:Vb):Us m n (qe++[z]):=by
 have T:∀ (j:Nat) (u:Vb),qe[j]? =I u->(qe++[z])[j]? =I u:=λ j u hj=>by
  rw [List.getElem?_append_left (List.getElem?_eq_some_iff.1 hj).1];exact hj
 refine ⟨λ k a b=>?_,λ t a b=>?_⟩
 ·obtain ⟨i,raw,x,q,w⟩:=h.on k a b;exact ⟨i,raw,x,T i _ q,w⟩
 ·obtain ⟨i,raw,y,q,w⟩:=h.ud t a b;exact ⟨i,raw,y,T i _ q,w⟩
theorem Us.ou (h:Us m n qe) (hi:qe[i]? =I ⟨raw,I (.wr x)⟩) (hw:∀ t,t < n->m'.wd (3+t)=m.wd (3+t))
  (hon:∀ k,m'.wd 1<=k->k < m'.wd 0->(m.wd 1<=k/\k < m.wd 0/\(2<=x.part->x.qc=k->∃ x',z.g=I (.wr x')/\2<=x'.part/\x'.qc=k))\/∃ x',z.g=I (.wr x')/\2<=x'.part/\x'.qc=k):Us m' n (qe.set i z):=by
 have T:=Kw (List.getElem?_eq_some_iff.1 hi).1 z;have qZ:∀ k,(∃ x',z.g=I (.wr x')/\2<=x'.part/\x'.qc=k)->∃ (i':Nat) (raw:Zu) (x:Zv),(qe.set i z)[i']? =I ⟨raw,I (.wr x)⟩/\2<=x.part/\x.qc=k:=by
  rintro k ⟨x',e,q⟩;exact ⟨i,z.raw,x',by rw [T,P9 rfl,<-e],q⟩
 refine ⟨λ k a b=>?_,λ t a b=>?_⟩
 ·rcases hon k a b with ⟨q1,q2,q3⟩|q
  ·obtain ⟨j,raw2,x2,e,w⟩:=h.on k q1 q2
   by_cases ej:i=j
   ·subst ej;rw [hi] at e;simp at e;rw [<-e.2] at w;exact qZ k (q3 w.1 w.2)
   ·exact ⟨j,raw2,x2,by rw [T,Q9 ej];exact e,w⟩
  ·exact qZ k q
 ·rw [hw t a] at b;obtain ⟨j,raw2,y2,e,w⟩:=h.ud t a b;refine ⟨j,raw2,y2,?_,w⟩;rw [T,Q9 ?_]
  ·exact e
  ·rintro rfl;rw [hi] at e;simp at e
theorem Us.setR (h:Us m n qe) (hi:qe[i]? =I ⟨raw,I (.rd y)⟩) (h0:m'.wd 0=m.wd 0) (h1:m'.wd 1=m.wd 1) (hw:∀ t:Nat,t < n->(t:Int)≠y.thread->m'.wd (3+t)=m.wd (3+t))
  (hk:∀ t:Nat,(t:Int)=y.thread->m'.wd (3+t)≠0->∃ y',z.g=I (.rd y')/\y'.thread=y.thread):Us m' n (qe.set i z):=by
 have T:=Kw (List.getElem?_eq_some_iff.1 hi).1 z;refine ⟨λ k a b=>?_,λ t a b=>?_⟩
 ·rw [h1] at a;rw [h0] at b;obtain ⟨j,raw2,x2,e,w⟩:=h.on k a b;refine ⟨j,raw2,x2,?_,w⟩;rw [T,Q9 ?_]
  ·exact e
  ·rintro rfl;rw [hi] at e;simp at e
 ·by_cases et:(t:Int)=y.thread
  ·obtain ⟨y',e,q⟩:=hk t et b;exact ⟨i,z.raw,y',by rw [T,P9 rfl,<-e],by rw [q,et]⟩
  ·rw [hw t a et] at b;obtain ⟨j,raw2,y2,e,w⟩:=h.ud t a b;refine ⟨j,raw2,y2,?_,w⟩;rw [T,Q9 ?_]
   ·exact e
   ·rintro rfl;rw [hi] at e;simp at e;rw [<-e.2] at w;exact et w.symm
theorem w_tick (k:Bc c0 c1) (hl:(m.ws.length:Int)=Zw c0 c1) (h:Jv c0 c1 x) (hp:2<=x.part) (h8:x.part≠8) (v:Nat):2<=(x.step m.opened v).1.part/\(x.step m.opened v).1.qc=x.qc/\(x.step m.opened v).2.wd 0=m.wd 0/\(x.step m.opened v).2.wd 1=m.wd 1/\∀ j:Nat,3<=j->(j:Int) < 3+c1->(x.step m.opened v).2.wd j=m.wd j:=by
 have p8:=h.p8;have b0:=k.b0;have qQ:∀ q:Zh,q.ws=m.ws->q.wd 0=m.wd 0/\q.wd 1=m.wd 1/\∀ j:Nat,3<=j->(j:Int) < 3+c1->q.wd j=m.wd j:=λ q e=>by
  unfold Zh.wd;rw [e];exact ⟨J,J,λ _ _ _=>J⟩
 rcases (show x.part=2\/x.part=3\/x.part=4\/x.part=5\/x.part=6\/x.part=7 by omega) with hp|hp|hp|hp|hp|hp
 ·rw [Nd k hl hp];exact ⟨by show 2<=(if m.wd 1=x.qc then (3:Int) else 2);split <;> omega,rfl,qQ _ (Zh.zp _ _)⟩
 ·rw [Nc k hl hp];exact ⟨by simp,rfl,qQ _ (Zh.zp _ _)⟩
 ·rcases Kv k hl h hp v with ⟨hk,e⟩|⟨hk,e⟩|⟨hk,hf,e⟩|⟨hk,hh,e⟩|⟨hk,hh,e⟩
  ·rw [e];exact ⟨by show 2<=x.part;omega,rfl,qQ _ rfl⟩
  ·rw [e];exact ⟨by show 2<=x.part;omega,rfl,qQ _ (Zh.xn _ _ _ _)⟩
  ·rw [e];exact ⟨by show 2<=x.part;omega,rfl,qQ _ (Zh.xn _ _ _ _)⟩
  ·rw [e];exact ⟨by simp,rfl,qQ _ rfl⟩
  ·rw [e];exact ⟨by simp,rfl,qQ _ rfl⟩
 ·obtain ⟨nx,po,n0,n1,esc,ews,q⟩:=Bs (v:=v) k hl h hp;have w:=qQ _ ews;rcases q with ⟨_,e⟩|⟨_,_,e⟩|⟨_,_,e⟩
  ·rw [e];exact ⟨by show 2<=x.part;omega,rfl,w⟩
  ·rw [e];exact ⟨by show 2<=x.part;omega,rfl,w⟩
  ·rw [e];exact ⟨by show 2<=(if 0 < x.ql.length then (6:Int) else 7);split <;> omega,rfl,w⟩
 ·obtain ⟨n,n0,n3,en,em,q⟩:=Ku (v:=v) k hl h hp;have w:∀ j:Nat,(j:Int) < 3+c1->(x.step m.opened v).2.wd j=m.wd j:=λ j hj=>by
   rw [em];exact Zh.vz _ _ (by unfold Z2;omega) (by have:=(h.cell hp).1;unfold Yk;split <;> (try split) <;> omega)
  refine ⟨?_,?_,w 0 (by omega),w 1 (by omega),λ j _ b=>w j b⟩
  ·rcases q with ⟨_,e⟩|⟨_,_,e⟩|⟨_,_,e⟩
   ·rw [e];show 2<=x.part;omega
   ·rw [e];show 2<=x.part;omega
   ·rw [e];simp
  ·rcases q with ⟨_,e⟩|⟨_,_,e⟩|⟨_,_,e⟩ <;> rw [e]
 ·rw [Nb hp];have w:∀ j:Nat,j≠2->(m.opened.store 2 (u64 (x.qg+1))).wd j=m.wd j:=λ j hj=>by rw [Zh.xp _ (by omega)];rfl
  exact ⟨by simp,rfl,w 0 (by omega),w 1 (by omega),λ j a _=>w j (by omega)⟩
theorem Us.kh (h:Us m n qe) (o:Pe c0 c1 m qe) (hn:(n:Int)=c1) (hi:qe[i]? =I ⟨raw,I (.wr x)⟩) (s0:0<=m.wd 0/\m.wd 0 < 1000000000) (tk:x.part=8->x.qc=m.wd 1/\0<=m.wd 1/\m.wd 1 < 1000000000) (v:Nat)
  (hz:(z.g=I (.wr (x.step m.opened v).1))\/x.part=8):Us (x.step m.opened v).2 n (qe.set i z):=by
 have hs:=o.w i raw x hi;have b0:=o.k.b0;have p1:=hs.p1;have lo:=λ n a b=>Ve o.k o.len n a b
 by_cases h1:x.part=1
 ·rcases hz with hz|hz
  ·rw [Nf o.k o.len h1] at hz ⊢
   have qQ:∀ j:Nat,(m.opened.add 0 1).wd j=if 0=j then m.wd 0+1 else m.wd j:=λ j=>by
    rw [Zh.ke (by omega) (lo 0 (by omega) (by omega))];show (if (0:Nat)=j then u64 (m.wd 0+1) else m.wd j)=_;rw [J8 (by omega) (by omega)]
   refine h.ou hi (λ t _=>by show (m.opened.add 0 1).wd _=_;rw [qQ,Q9 (by omega)]) (λ q a b=>?_);have a:(m.opened.add 0 1).wd 1<=q:=a;have b:q < (m.opened.add 0 1).wd 0:=b;rw [qQ,Q9 (by omega)] at a;rw [qQ,P9 rfl] at b
   by_cases e:q=m.wd 0
   ·exact .inr ⟨_,hz,by simp,e.symm⟩
   ·exact .inl ⟨a,by omega,λ c=>by omega⟩
  ·omega
 ·by_cases h8:x.part=8
  ·obtain ⟨t1,t2,t3⟩:=tk h8;rw [Na h8];have qQ:∀ j:Nat,(m.opened.store 1 (u64 (x.qc+1))).wd j=if 1=j then m.wd 1+1 else m.wd j:=λ j=>by
    rw [Zh.zv (by omega) (lo 1 (by omega) (by omega)),t1,J8 (by omega) (by omega)];rfl
   refine h.ou hi (λ t _=>by show (m.opened.store 1 _).wd _=_;rw [qQ,Q9 (by omega)]) (λ q a b=>?_);have a:(m.opened.store 1 (u64 (x.qc+1))).wd 1<=q:=a;have b:q < (m.opened.store 1 (u64 (x.qc+1))).wd 0:=b;rw [qQ,P9 rfl] at a;rw [qQ,Q9 (by omega)] at b;exact .inl ⟨by omega,b,λ _ e=>by omega⟩
  ·rcases hz with hz|hz
   ·obtain ⟨q1,q2,q3,q4,q5⟩:=w_tick o.k o.len hs (by omega) h8 v;refine h.ou hi (λ t ht=>q5 (3+t) (by omega) (by omega)) (λ q a b=>.inl ⟨by rw [<-q4];exact a,by rw [<-q3];exact b,λ _ e=>⟨_,hz,q1,by rw [q2];exact e⟩⟩)
   ·exact absurd hz h8
theorem Us.kk (h:Us m n qe) (o:Pe c0 c1 m qe) (hn:(n:Int)=c1) (hi:qe[i]? =I ⟨raw,I (.rd y)⟩) (v:Nat) (hz:(z.g=I (.rd (y.step m.opened v).1))\/y.part=3):Us (y.step m.opened v).2 n (qe.set i z):=by
 have hs:=o.r i raw y hi;have b0:=o.k.b0;have t0:=hs.t0;have t1:=hs.t1;have p1:=hs.p1;have p3:=hs.p3;have main:y.part≠3->(y.step m.opened v).1.thread=y.thread->(∀ j:Nat,(j:Int) < 3+c1->(j:Int)≠3+y.thread->(y.step m.opened v).2.wd j=m.wd j)->Us (y.step m.opened v).2 n (qe.set i z):=by
  intro h3 e w;rcases hz with hz|hz
  ·exact h.setR hi (w 0 (by omega) (by omega)) (w 1 (by omega) (by omega)) (λ t a b=>w (3+t) (by omega) (by omega)) (λ t _ _=>⟨_,hz,e⟩)
  ·exact absurd hz h3
 have qQ:∀ q:Zh,q.ws=m.ws->∀ j:Nat,q.wd j=m.wd j:=λ q e j=>by unfold Zh.wd;rw [e]
 have S:∀ u (j:Nat),(j:Int)≠3+y.thread->(m.opened.store (3+y.thread) u).wd j=m.wd j:=λ u j hj=>by rw [Zh.xp _ (by omega)];rfl
 rcases (show y.part=1\/y.part=2\/y.part=3 by omega) with hp|hp|hp
 ·rcases Kz (v:=v) o.k o.len hs hp with ⟨_,e,ews⟩|⟨_,e,em⟩|⟨_,e,ews⟩
  ·exact main (by omega) (by rw [e]) (λ j _ _=>qQ _ ews j)
  ·exact main (by omega) (by rw [e]) (λ j _ a=>by rw [em];exact S _ j a)
  ·exact main (by omega) (by rw [e]) (λ j _ _=>qQ _ ews j)
 ·obtain ⟨ews,q⟩:=Bv o.k o.len hs hp v;have hgo:∀ (z:Z8) (r:Yu),(z.zl r m.opened).1.thread=z.thread:=by
   intro z r;unfold Z8.zl;simp only;split <;> rfl
  refine main (by omega) ?_ (λ j _ _=>qQ _ ews j);rcases q with ⟨r,_,e⟩|⟨_,_,e,_⟩|⟨_,_,e⟩|⟨_,_,e⟩
  ·rw [e];exact hgo _ _
  ·rw [e];exact hgo _ _
  ·rw [e]
  ·rw [e]
 ·rw [Nq o.k hs hp];refine h.setR hi (S _ 0 (by omega)) (S _ 1 (by omega)) (λ t _ b=>S _ (3+t) (by omega)) (λ t a b=>?_);exfalso;apply b;show (m.opened.store (3+y.thread) 0).wd (3+t)=0;rw [Zh.zv (by omega) (Ve o.k o.len (3+y.thread) (by omega) (by omega)),P9 (by omega)]
def Zn.LI (s:Zn):Prop:=Us s.mem s.qi.length s.qe
theorem Zn.LI.step (h:s.LI) (hs:Qa s) (k:Yi s) (ht:t < s.qi.length) (hn:s.steps+1 < 1000000000) (v:Nat):(s.step t v).LI:=by
 unfold Zn.step;cases hf:(s.th t).fin with
 |true=>rw [P9 rfl];exact h
 |false=>
  rw [Q9 (by simp)];obtain ⟨hr,hl,i,hc⟩:=k.ready ht hf;have ht':t < (s.ready t).qi.length:=by rw [hl];exact ht
  obtain ⟨raw,g,hx,_⟩:=hr.cur t i ht' hc;rw [Ux hc hx];have hh:(s.ready t).LI:=by
   unfold Zn.LI;rw [hl];unfold Zn.ready;split
   ·exact h.push _
   ·exact h
  have hsr:=hs.ready t hn;have o:=hsr.ui hr;generalize s.ready t=q at *
  have sm:=hsr.small hr;unfold Zn.zc;cases g with
  |wr x=>
   have sh:=o.w i raw x hx;have go:∀ z:Vb,((z.g=I (.wr (x.step q.mem.opened v).1))\/x.part=8)->Us (x.step q.mem.opened v).2 q.qi.length (q.qe.set i z):=λ z hz=>
    Us.kh hh o hr.nt.symm hx sm.1 (λ e=>⟨hsr.ki hx (by omega),sm.2.1⟩) v hz
   split
   ·rename_i ho;show Us (x.step q.mem.opened v).2 (q.qi.set t _).length _;rw [List.length_set];refine go _ (.inr ?_);have ho:((x.step q.mem.opened v).1.part==9)=true:=ho;rcases Jv.step o.k o.len sh v with e|e
    ·exact e.1
    ·have:=e.p8;simp at ho;omega
   ·show Us (x.step q.mem.opened v).2 q.qi.length _;exact go _ (.inl J)
  |rd y=>
   have sh:=o.r i raw y hx;have go:∀ z:Vb,((z.g=I (.rd (y.step q.mem.opened v).1))\/y.part=3)->Us (y.step q.mem.opened v).2 q.qi.length (q.qe.set i z):=λ z hz=>
    Us.kk hh o hr.nt.symm hx v hz
   split
   ·rename_i ho;show Us (y.step q.mem.opened v).2 (q.qi.set t _).length _;rw [List.length_set];refine go _ (.inr ?_);have ho:((y.step q.mem.opened v).1.part==4)=true:=ho;rcases Ks.step o.k o.len sh v with e|e
    ·exact e.1
    ·have:=e.p3;simp at ho;omega
   ·show Us (y.step q.mem.opened v).2 q.qi.length _;exact go _ (.inl J)
theorem Qn.li (h:Qn s l r) (k:Yi s) (hs:Qa s) (hi:s.LI) (ht:∀ t∈l,t < s.qi.length) (hn:s.steps+l.length < 1000000000):r.LI:=by
 induction h with
 |nil s=>exact hi
 |@cons s r t l v h ih=>
  have q:=k.step (ht t (by simp)) v;have e:=(Kb s t v).1;simp only [List.length_cons] at hn;exact ih q.1 (hs.step k (ht t (by simp)) (by omega) v) (hi.step hs k (ht t (by simp)) (by omega) v) (λ u hu=>by rw [q.2];exact ht u (by simp [hu])) (by omega)
def Rm (s:Zn) (t:Nat):Prop:=(s.th t).fin=true\/∃ i raw g,(s.th t).cur=I i/\s.qe[i]? =I ⟨raw,I g⟩/\g.blocked s.mem
theorem Cc {x:Qy} (h:x.fin=true):x.cur=O:=by
 unfold Qy.fin at h;simp at h;exact h.1
theorem I2 (k:Yi s) (hs:Qa s) (qY:s.LI) (q:∀ t,t < s.qi.length->Rm s t):∀ t,t < s.qi.length->(s.th t).fin=true:=by
 have o:=hs.ui k;have A:∀ (i:Nat) (raw:Zu) (x:Zv),s.qe[i]? =I ⟨raw,I (.wr x)⟩->x.blocked s.mem->x.part=2/\s.mem.wd 1≠x.qc:=by
  intro i raw x hx hb;rcases hb with hb|⟨_,n0,n1,hw⟩
  ·exact hb
  ·exfalso;have sh:=o.w i raw x hx;have e1:=sh.k1;have en:=k.nt;obtain ⟨j,raw2,y,hy,et⟩:=qY.ud (Hu x.scan).toNat (by omega) (by rw [show 3+(Hu x.scan).toNat=(3+Hu x.scan).toNat by omega];exact hw);obtain ⟨u,hu,hc,_,gs⟩:=k.tx j raw2 _ hy;rcases q u hu with f|⟨j2,raw3,g,c2,x2,b2⟩
   ·rw [Cc f] at hc;cases hc
   ·rw [hc] at c2;obtain rfl:=Zo_ c2;rw [hy] at x2;simp at x2;rw [<-x2.2] at b2;exact b2
 intro t ht;rcases q t ht with f|⟨i,raw,g,hc,hx,hb⟩
 ·exact f
 ·exfalso;cases g with
  |rd y=>exact hb
  |wr x=>
   obtain ⟨h2,hne⟩:=A i raw x hx hb;have tk:=hs.qc hx (by omega);have w1:=(hs.a.one _ (Ds hx)).w1 J (by show (if x.part=1 then 0 else if x.part=2 then 1 else 2)=1;rw [Q9 (by omega),P9 h2]);have em:(Xp ⟨raw,I (.wr x)⟩).mark=x.qc:=P9 (by omega);rw [em] at w1;obtain ⟨j,raw2,x2,hx2,p2,t2⟩:=qY.on (s.mem.wd 1) (Int.le_refl _) (by omega);obtain ⟨u,hu,hcu,_,_⟩:=k.tx j raw2 _ hx2;rcases q u hu with f|⟨j2,raw3,g,c2,x3,b2⟩
   ·rw [Cc f] at hcu;cases hcu
   ·rw [hcu] at c2;obtain rfl:=Zo_ c2;rw [hx2] at x3;simp at x3;rw [<-x3.2] at b2;exact (A j raw2 x2 hx2 b2).2 t2.symm
end
section
variable {v i t u:Nat} {g:Qt} {z:Vb} {raw:Zu} {s r q:Zn} {l:List Nat}
def Vb.work (z:Vb):Nat:=match z.g with|none=>0|some g=>g.work
def Qy.todo (x:Qy):Nat:=x.calls.length - x.begun
def Zn.left (s:Zn):Nat:=(s.qe.map Vb.work).sum+400 * (s.qi.map Qy.todo).sum
theorem Ka {α:Type} (f:α->Nat) {l:List α} {i:Nat} {x:α} (hi:l[i]? =I x) (z:α):((l.set i z).map f).sum+f x=(l.map f).sum+f z:=by
 induction l generalizing i with
 |nil=>simp at hi
 |cons a l ih=>
  cases i with
  |zero=>
   simp at hi;subst hi;simp only [List.set_cons_zero,List.map_cons,List.sum_cons];omega
  |succ i=>
   simp at hi;have:=ih hi;simp only [List.set_cons_succ,List.map_cons,List.sum_cons];omega
theorem Ni (ht:t < s.qi.length):s.qi[t]? =I (s.th t):=by
 unfold Zn.th;rw [G_,List.getElem?_eq_getElem ht];rfl
theorem Ad (k:Yi q) (ht:t < q.qi.length) (hx:q.qe[i]? =I ⟨raw,I g⟩) (v:Nat):
  (q.zc t i raw (g.step q.mem.opened v)).left+1<=q.left\/(q.zc t i raw (g.step q.mem.opened v)={q with mem:=(g.step q.mem.opened v).2,qe:=q.qe.set i ⟨raw,I (g.step q.mem.opened v).1⟩}/\g.blocked q.mem/\(g.step q.mem.opened v).2.ws=q.mem.ws/\(q.zc t i raw (g.step q.mem.opened v)).left=q.left):=by
 obtain ⟨u,_,_,_,gs⟩:=k.tx i raw g hx;have w:=g_work k.cfg k.len gs v;have no:∀ b:Bool,(g.step q.mem.opened v).1.qf=b->(b=false->q.zc t i raw (g.step q.mem.opened v)={q with mem:=(g.step q.mem.opened v).2,qe:=q.qe.set i ⟨raw,I (g.step q.mem.opened v).1⟩})/\(b=true->q.zc t i raw (g.step q.mem.opened v)={q with mem:=(g.step q.mem.opened v).2,qi:=q.qi.set t {q.th t with cur:=O},qe:=q.qe.set i ⟨{raw.join (g.step q.mem.opened v).1.told with ended:=q.steps},O⟩}):=by
  intro b e;unfold Zn.zc;refine ⟨λ hb=>?_,λ hb=>?_⟩
  ·rw [Q9 (by rw [e,hb];simp)]
  ·rw [P9 (by rw [e,hb])]
 rcases w with ⟨hb,ho,ews,hw⟩|⟨ho,hw⟩|⟨ho,hw⟩
 ·have e:=(no _ ho).1 J;right;refine ⟨e,hb,ews,?_⟩;rw [e];have a:=Ka Vb.work hx ⟨raw,I (g.step q.mem.opened v).1⟩;have b1:Vb.work ⟨raw,I (g.step q.mem.opened v).1⟩=(g.step q.mem.opened v).1.work:=J;have b2:Vb.work ⟨raw,I g⟩=g.work:=J;unfold Zn.left;simp only;omega
 ·have e:=(no _ ho).2 J;left;rw [e];have a:=λ d=>Ka Vb.work hx ⟨d,O⟩;have b1:∀ d,Vb.work ⟨d,O⟩=0:=λ _=>J;have b2:Vb.work ⟨raw,I g⟩=g.work:=J;have c:=Ka Qy.todo (Ni ht) ⟨(q.th t).calls,(q.th t).begun,O⟩;have c1:Qy.todo ⟨(q.th t).calls,(q.th t).begun,O⟩=(q.th t).todo:=J;unfold Zn.left;have a:=a {raw.join (g.step q.mem.opened v).1.told with ended:=q.steps};rw [b1] at a;simp only at a ⊢
  omega
 ·have e:=(no _ ho).1 J;left;rw [e];have a:=Ka Vb.work hx ⟨raw,I (g.step q.mem.opened v).1⟩;have b1:Vb.work ⟨raw,I (g.step q.mem.opened v).1⟩=(g.step q.mem.opened v).1.work:=J;have b2:Vb.work ⟨raw,I g⟩=g.work:=J;unfold Zn.left;simp only;omega
theorem E9 (hf:s.c2<=60):(s.xb t).work<=399:=by
 unfold Zn.xb;split
 ·exact E7 hf
 ·exact E8 hf
theorem Cx (k:Yi s) (hf:s.c2<=60) (ht:t < s.qi.length) (v:Nat):
  (s.step t v).left+1<=s.left\/((s.step t v).left=s.left/\Rm s t/\∀ u,u≠t->u < s.qi.length->Rm (s.step t v) u->Rm s u):=by
 cases hfin:(s.th t).fin with
 |true=>
  have e:s.step t v=s:=by unfold Zn.step;rw [P9 hfin]
  rw [e];exact .inr ⟨J,.inl hfin,λ u _ _ h=>h⟩
 |false=>
  have e:s.step t v=(s.ready t).j9 t v:=by unfold Zn.step;rw [Q9 (by simp [hfin])]
  rw [e];obtain ⟨hr,hl,i,hc⟩:=k.ready ht hfin;have ht':t < (s.ready t).qi.length:=by rw [hl];exact ht
  obtain ⟨raw,g,hx,_⟩:=hr.cur t i ht' hc;rw [Ux hc hx];have F:=Ad hr ht' hx v;cases hcur:(s.th t).cur with
  |none=>
   left;have er:s.ready t=Zn.begin {s with steps:=s.steps+1} t:=by unfold Zn.ready;rw [P9 (by rw [hcur];rfl)]
   have hb:(s.th t).begun < (s.th t).calls.length:=by
    unfold Qy.fin at hfin;rw [hcur] at hfin;simp at hfin;have:=(k.begun t ht).1;omega
   have qY:(s.ready t).left+1<=s.left:=by
    rw [er];have nw:=E9 (s:={s with steps:=s.steps+1}) (t:=t) hf;have a:=Ka Qy.todo (Ni ht) {s.th t with cur:=I s.qe.length,begun:=(s.th t).begun+1};have a1:Qy.todo {s.th t with cur:=I s.qe.length,begun:=(s.th t).begun+1}+1=(s.th t).todo:=by
     show (s.th t).calls.length - ((s.th t).begun+1)+1=(s.th t).calls.length - (s.th t).begun;omega
    unfold Zn.left;have e1:(Zn.begin {s with steps:=s.steps+1} t).qi=s.qi.set t {s.th t with cur:=I s.qe.length,begun:=(s.th t).begun+1}:=J;have e2:(Zn.begin {s with steps:=s.steps+1} t).qe=s.qe++[⟨Xj t (s.th t).begun (s.call t).1 (s.steps+1:Nat),I (Zn.xb {s with steps:=s.steps+1} t)⟩]:=J;rw [e1,e2,List.map_append,List.sum_append];have b1:((([⟨Xj t (s.th t).begun (s.call t).1 (s.steps+1:Nat),I (Zn.xb {s with steps:=s.steps+1} t)⟩]:List Vb).map Vb.work).sum)=(Zn.xb {s with steps:=s.steps+1} t).work:=by
     simp [Vb.work]
    rw [b1];omega
   rcases F with F|⟨_,_,_,F⟩ <;> omega
  |some i0=>
   have er:s.ready t={s with steps:=s.steps+1}:=by unfold Zn.ready;rw [Q9 (by rw [hcur];simp)]
   rw [er] at F hc hx ⊢
   have eL:Zn.left {s with steps:=s.steps+1}=s.left:=J;rw [eL] at F;rcases F with F|⟨e2,hb,ews,F⟩
   ·exact .inl F
   ·right;refine ⟨F,.inr ⟨i,raw,g,hc,hx,hb⟩,λ u hu hul Q=>?_⟩;rw [e2] at Q;rcases Q with Q|⟨j,raw2,g2,c2,x2,b2⟩
    ·exact .inl Q
    ·right;have c2:(s.th u).cur=I j:=c2;have hne:i≠j:=by
      rintro rfl;exact hu (k.one hul ht c2 hc)
     have x2:(s.qe.set i _)[j]? =I ⟨raw2,I g2⟩:=x2;rw [Kw (List.getElem?_eq_some_iff.1 hx).1,Q9 hne] at x2;refine ⟨j,raw2,g2,c2,x2,?_⟩;have qQ:∀ n,(g.step (Zn.mem {s with steps:=s.steps+1}).opened v).2.wd n=s.mem.wd n:=λ n=>by unfold Zh.wd;rw [ews]
     cases g2 with
     |rd y=>exact b2
     |wr x=>
      have b2:Zv.blocked (g.step (Zn.mem {s with steps:=s.steps+1}).opened v).2 x:=b2;show Zv.blocked s.mem x;unfold Zv.blocked at b2 ⊢
      rw [qQ,qQ] at b2;exact b2
theorem step_c2 (s:Zn) (t v:Nat):(s.step t v).c2=s.c2:=by
 have hr:(s.ready t).c2=s.c2:=by unfold Zn.ready;split <;> rfl
 unfold Zn.step;split
 ·rfl
 ·rw [<-hr];unfold Zn.j9;split
  ·rfl
  ·split
   ·split <;> rfl
   ·rfl
theorem Qn.left (h:Qn s l r) (k:Yi s) (hf:s.c2<=60) (ht:∀ t∈l,t < s.qi.length):r.left<=s.left/\(l.Nodup->r.left=s.left->∀ t∈l,Rm s t):=by
 induction h with
 |nil s=>exact ⟨Nat.le_refl _,λ _ _ t ht=>by cases ht⟩
 |@cons s r t l v h ih=>
  have q:=k.step (ht t (by simp)) v;obtain ⟨a,b⟩:=ih q.1 (by rw [step_c2];exact hf) (λ u hu=>by rw [q.2];exact ht u (by simp [hu]));have S:=Cx k hf (ht t (by simp)) v;refine ⟨by rcases S with S|S <;> omega,λ nd e u hu=>?_⟩;rcases S with S|⟨S1,S2,S3⟩
  ·omega
  ·rw [List.nodup_cons] at nd;rcases List.mem_cons.1 hu with rfl|hu'
   ·exact S2
   ·exact S3 u (λ e2=>nd.1 (e2 ▸ hu')) (ht u hu) (b nd.2 (by omega) u hu')
theorem Sg (h:Qn s l r) (k:Yi s) (hs:Qa s) (qY:s.LI) (hf:s.c2<=60) (ht:∀ t∈l,t < s.qi.length) (nd:l.Nodup) (all:∀ t,t < s.qi.length->t∈l) (hno:s.qf=false):r.left+1<=s.left:=by
 obtain ⟨a,b⟩:=h.left k hf ht;rcases Nat.lt_or_ge r.left s.left with q|q
 ·exact q
 ·exfalso;have Q:=I2 k hs qY (λ t htl=>b nd (by omega) t (all t htl));have:s.qf=true:=by
   unfold Zn.qf;rw [List.all_eq_true];intro x hx;obtain ⟨i,hi,rfl⟩:=List.mem_iff_getElem.1 hx;have:=Q i hi;unfold Zn.th at this;rw [G_,List.getElem?_eq_getElem hi] at this;exact this
  rw [this] at hno;cases hno
end
section
variable {c0 c1 c2 c3:Int} {start:List Nat} {progs:List (Int×List Xg)} {cs:List (List (Int×List Nat))} {w w0:W} {x i t v:Nat} {e0 s r:Zn} {ts l:List Nat}
theorem Nk (s:Zh) (p4:Int) (xs:List Nat) {j:Nat} (hj:(j:Int) < p4):∀ k,(Vp s p4 xs k).wd j=s.wd j
 |0=>rfl
 |k+1=>by
  have P:∀ (s:Zh) (i v:Int),p4<=i->(s.jy i v).wd j=s.wd j:=by
   intro s i v hi;unfold Zh.jy;split
   ·rw [Zh.j7,Q9 (by omega)]
   ·rfl
  rw [Vp,P _ _ _ (by omega),P _ _ _ (by omega),P _ _ _ (by omega),Nk s p4 xs hj k]
theorem Nu (_:Y1 c0 c1 c2 c3) {j:Nat} (hj:(j:Int) < 3+c1):(Vt c0 c1 c2 c3 start progs cs).mem.wd j=0:=by
 show (Qx (.fresh (Zw c0 c1).toNat) (Z2 c1) start).wd j=0;have e:(Zh.fresh (Zw c0 c1).toNat).wd j=0:=by
  unfold Zh.wd Zh.fresh;rw [G_,List.getElem?_replicate];split <;> rfl
 unfold Qx;split
 ·rw [Nk _ _ _ (by unfold Z2;omega),e]
 ·exact e
theorem newE_hi (hc:Y1 c0 c1 c2 c3):(Vt c0 c1 c2 c3 start progs cs).HI (λ c=>(Vt c0 c1 c2 c3 start progs cs).mem.zf c1 c) (Vt c0 c1 c2 c3 start progs cs).mF:=by
 have hw:=Fs (start:=start) (progs:=progs) (cs:=cs) hc 2 (by omega);have R:=Wr (start:=start) (progs:=progs) (cs:=cs) hc;refine ⟨λ _ c=>(Vt c0 c1 c2 c3 start progs cs).mem.zf c1 c,J,λ c a b=>.inl ⟨?_,J⟩,λ i raw y hi=>(by cases hi),λ i raw y hi=>(by cases hi),λ i raw x hi=>(by cases hi),λ i raw x hi=>(by cases hi),λ i raw hi=>(by cases hi),λ k hk=>?_⟩
 ·rcases R.low with q|⟨j,raw,x,hj,_⟩
  ·exact q c a b
  ·cases hj
 ·rw [hw] at hk;simp at hk
theorem newE_li (hc:Y1 c0 c1 c2 c3):(Vt c0 c1 c2 c3 start progs cs).LI:=by
 have hb:=hc.2.2.1;have h0:=Nu (start:=start) (progs:=progs) (cs:=cs) hc (j:=0) (by omega);have h1:=Nu (start:=start) (progs:=progs) (cs:=cs) hc (j:=1) (by omega);refine ⟨λ k a b=>by rw [h0] at b;rw [h1] at a;omega,λ t a b=>?_⟩;have ht:t < c1.toNat:=by simpa [Vt] using a
 exact absurd (Nu (start:=start) (progs:=progs) (cs:=cs) hc (j:=3+t) (by omega)) b
theorem Ia:(Vt c0 c1 c2 c3 start progs cs).left=400 * ((List.range c1.toNat).map (λ t=>(cs.getD t []).length)).sum:=by
 unfold Zn.left;show (([]:List Vb).map Vb.work).sum+400 * (((List.range c1.toNat).map (λ t=>(⟨cs.getD t [],0,O⟩:Qy))).map Qy.todo).sum=_;rw [List.map_map];simp only [List.map_nil,List.sum_nil,Nat.zero_add];rfl
def Zn.oi (s:Zn):Prop:=s.qe.length=(s.qi.map (·.begun)).sum
theorem Zn.oi.step (h:s.oi) (ht:t < s.qi.length) (v:Nat):(s.step t v).oi:=by
 have hr:(s.ready t).oi/\(s.ready t).qi.length=s.qi.length:=by
  unfold Zn.ready;split
  ·refine ⟨?_,by simp [Zn.begin]⟩;show (s.qe++[_]).length=((s.qi.set t ⟨(s.th t).calls,(s.th t).begun+1,I s.qe.length⟩).map (·.begun)).sum;have a:=Ka (λ x:Qy=>x.begun) (Ni ht) ⟨(s.th t).calls,(s.th t).begun+1,I s.qe.length⟩;have h:s.qe.length=(s.qi.map (·.begun)).sum:=h;rw [List.length_append,List.length_singleton];simp only at a;omega
  ·exact ⟨h,J⟩
 obtain ⟨hr,hl⟩:=hr;unfold Zn.step;split
 ·exact h
 ·have ht':t < (s.ready t).qi.length:=by rw [hl];exact ht
  generalize s.ready t=q at *
  unfold Zn.j9;split
  ·exact hr
  ·split
   ·split
    ·show (q.qe.set _ _).length=((q.qi.set t ⟨(q.th t).calls,(q.th t).begun,O⟩).map (·.begun)).sum;have a:=Ka (λ x:Qy=>x.begun) (Ni ht') ⟨(q.th t).calls,(q.th t).begun,O⟩;have hr:q.qe.length=(q.qi.map (·.begun)).sum:=hr;rw [List.length_set];simp only at a;omega
    ·show (q.qe.set _ _).length=_;rw [List.length_set];exact hr
   ·exact hr
theorem Qn.yc (h:Qn s l r) (k:Yi s) (hc:s.oi) (ht:∀ t∈l,t < s.qi.length):r.oi:=by
 induction h with
 |nil s=>exact hc
 |@cons s r t l v h ih=>
  have q:=k.step (ht t (by simp)) v;exact ih q.1 (hc.step (ht t (by simp)) v) (λ u hu=>by rw [q.2];exact ht u (by simp [hu]))
theorem newE_cnt:(Vt c0 c1 c2 c3 start progs cs).oi:=by
 show (0:Nat)=(((List.range c1.toNat).map (λ t=>(⟨cs.getD t [],0,O⟩:Qy))).map (·.begun)).sum;rw [List.map_map];have:((λ x:Qy=>x.begun) ∘ λ t=>(⟨cs.getD t [],0,O⟩:Qy))=λ _=>0:=J;rw [this]
 induction c1.toNat with
 |zero=>rfl
 |succ n ih=>rw [List.range_succ,List.map_append,List.sum_append,<-ih];rfl
theorem Zn.jt.refl (s:Zn):s.jt s:=⟨J,J,J,J,J,J⟩
theorem Zn.jt.trans {a b c:Zn} (h:a.jt b) (k:b.jt c):a.jt c:=⟨k.c0.trans h.c0,k.c1.trans h.c1,k.c2.trans h.c2,k.c3.trans h.c3,k.progs.trans h.progs,k.calls.trans h.calls⟩
theorem O8 (k:Yi s) (ht:t < s.qi.length) (v:Nat):s.jt (s.step t v):=by
 unfold Zn.step;cases hf:(s.th t).fin with
 |true=>rw [P9 rfl];exact .refl s
 |false=>
  rw [Q9 (by simp)];obtain ⟨hr,hl,i,hc⟩:=k.ready ht hf;have ht':t < (s.ready t).qi.length:=by rw [hl];exact ht
  obtain ⟨raw,g,hx,_⟩:=hr.cur t i ht' hc;rw [Ux hc hx];exact (Np s t).trans (N7 _ _ _ _ _)
theorem Qn.same (h:Qn s l r) (k:Yi s) (ht:∀ t∈l,t < s.qi.length):s.jt r:=by
 induction h with
 |nil s=>exact .refl s
 |@cons s r t l v h ih=>
  have q:=k.step (ht t (by simp)) v;exact (O8 k (ht t (by simp)) v).trans (ih q.1 (λ u hu=>by rw [q.2];exact ht u (by simp [hu])))
theorem E2 (k:Yi s) (ho:s.qf=true):(∀ z∈s.qe,z.g=O)/\s.qi.map (·.begun)=s.qi.map (·.calls.length):=by
 unfold Zn.qf at ho;rw [List.all_eq_true] at ho;refine ⟨λ z hz=>?_,List.map_congr_left λ x hx=>?_⟩
 ·obtain ⟨i,hi,rfl⟩:=List.mem_iff_getElem.1 hz;have hi':s.qe[i]? =I s.qe[i]:=List.getElem?_eq_getElem hi;generalize s.qe[i]=z at *
  obtain ⟨raw,g⟩:=z;cases g with
  |none=>rfl
  |some g=>
   obtain ⟨u,hu,hc,_⟩:=k.tx i raw g hi';have:=Cc (ho _ (List.mem_of_getElem? (Ni hu)));rw [hc] at this;cases this
 ·have:=ho x hx;unfold Qy.fin at this;simp at this;exact this.2
end
section
variable {n a b k t v x:Nat} {cs:List (List (Int×List Nat))} {w w0:W} {e0 s r:Zn} {ts l:List Nat} {g:Int->Nat} {m m0:Zk}
def Mk (n:Nat) (c:Int×List Nat):Prop:=c=(1,[])\/∃ a b s,a < n/\b < n/\s < 150/\c=(0,[fl a,fl b,fl s])
def X0 (n:Nat) (cs:List (List (Int×List Nat))):Zn:=Vt n 4 60 2 (List.replicate n (fl 100)) (Gj n) cs
structure Ut (n:Nat) (cs:List (List (Int×List Nat))):Prop where
 n2:2<=n
 xq:n<=10
 c:∀ l∈cs,∀ c∈l,Mk n c
 len:cs.length=4
 sum:((List.range 4).map (λ t=>(cs.getD t []).length)).sum<=30
theorem Ut.cf (h:Ut n cs):Y1 n 4 60 2:=by
 have a:=h.n2;have b:=h.xq;unfold Y1;omega
theorem Mk.ok {c:Int×List Nat} (h:Mk n c):0<=c.1/\c.1 < 2/\c.2.length<=8:=by
 rcases h with rfl|⟨a,b,s,_,_,_,rfl⟩
 ·simp
 ·simp
theorem sum4 (f:Nat->Nat):((List.range 4).map f).sum=f 0+f 1+f 2+f 3:=by
 simp [List.range_succ];omega
theorem Ut.set (h:Ut n cs):Tm n 4 60 2 (List.replicate n (fl 100)).length (Gj n).length cs:=by
 have hl:=h.len;have hs:=h.sum;rw [sum4] at hs;refine ⟨h.cf,by simp,by simp [Gj],by omega,λ i hi=>?_,λ i j hi hj=>?_⟩
 ·rcases (show i=0\/i=1\/i=2\/i=3 by omega) with rfl|rfl|rfl|rfl <;> omega
 ·exact (h.c _ (Ki hi) _ (Ki hj)).ok
theorem Ut.oy (h:Ut n cs):∀ p∈Gj n,p.2.length<=5864062014635:=by
 intro p hp;simp only [Gj,List.mem_cons,List.not_mem_nil,or_false] at hp;rcases hp with rfl|rfl
 ·decide
 ·have:=(Tv h.xq).2.2.2.1;have:=h.xq;simp only;omega
theorem Wt:Xl 2 Jb=true:=by decide+kernel
theorem T4 {c0 c1 c3 tag:Int} {code:List Xg} {args:List Nat} (h:Xl tag code=true):M0 (Uw c0 c1 60 c3 tag code args):=
 ⟨rfl,rfl,rfl,rfl,by show (!Xl tag code)=false;rw [h];rfl,rfl⟩
theorem bank_m (h2:2<=n) (h10:n<=10) (c:Int×List Nat) (hc:Mk n c\/c=(0,[])):Rq n (Uw n 4 60 2 ((Gj n).getD c.1.toNat (0,[])).1 ((Gj n).getD c.1.toNat (0,[])).2 c.2):=by
 rcases hc with (rfl|⟨a,b,s,ha,hb,hs,rfl⟩)|rfl
 ·exact .rd ⟨T4 (Tv h10).2.2.2.2.1,J,J,λ _=>J,h10⟩ (by show (1:Int)≠2;decide) ⟨J,J,J,J⟩
 ·exact .mv a b s ⟨T4 Wt,J,J,J,J,Q8 (by omega),Q8 (by omega),Q8 (by omega),h10,ha,hb,hs⟩ ⟨J,J,J⟩
 ·exact .mv 0 0 0 ⟨T4 Wt,J,J,J,J,Fz.symm,Fz.symm,Fz.symm,h10,by omega,by omega,by omega⟩ ⟨J,J,J⟩
theorem Oh (h:Ut n cs) (th no:Int):Rq n ((X0 n cs).mF th no):=by
 unfold Zn.mF mOf;refine bank_m h.n2 h.xq _ ?_;have e:(X0 n cs).qi.map (·.calls)=(List.range 4).map (λ t=>cs.getD t []):=by
  show (((List.range (4:Int).toNat).map (λ t=>(⟨cs.getD t [],0,O⟩:Qy))).map (·.calls))=_;rw [List.map_map];rfl
 rw [e];generalize hl:(((List.range 4).map (λ t=>cs.getD t [])).getD th.toNat [])=l;have hm:∀ c∈l,Mk n c:=by
  intro c hc;rw [G_,List.getElem?_map] at hl;rcases Nat.lt_or_ge th.toNat 4 with q|q
  ·rw [List.getElem?_range q] at hl;simp only [Option.map_some,Option.getD_some] at hl;subst hl;exact h.c _ (Ki (by rw [h.len];exact q)) c hc
  ·rw [List.getElem?_eq_none (by simpa using q)] at hl;simp only [Option.map_none,Option.getD_none] at hl;subst hl;cases hc
 rcases Nat.lt_or_ge no.toNat l.length with q|q
 ·exact .inl (hm _ (Ki q))
 ·right;rw [G_,List.getElem?_eq_none q];rfl
theorem R0 (c n:Nat):Q4 (λ _=>c) n=c * n:=by
 induction n with
 |zero=>rfl
 |succ n ih=>simp only [Q4,ih];rw [Nat.mul_add];omega
def startOk (n:Nat):Bool:=(List.range n).all λ c=>(Qx (.fresh (Zw n 4).toNat) (Z2 4) (List.replicate n (fl 100))).zf 4 c==fl 100
theorem Ec:(List.range 11).all startOk=true:=by decide+kernel
theorem Aj (h10:n<=10):Bal n (λ c=>(X0 n cs).mem.zf 4 c):=by
 refine ⟨λ _=>100,λ c hc=>?_,R0 100 n⟩;have q:=List.all_eq_true.1 Ec n (List.mem_range.2 (by omega));have q2:=List.all_eq_true.1 q c (List.mem_range.2 hc);exact of_decide_eq_true q2
theorem Bal.ext {g':Int->Nat} (h:Bal n g) (e:∀ c,g' c=g c):Bal n g':=by
 rwa [show g'=g from funext e]
theorem Iz {H:Nat->Int->Nat} {G:Int->Nat} {F:Int->Int->Zk} {mm:Zh} {c0 c1:Int} {qe:List Vb} (h:Ua H G F mm c0 c1 qe) (hG:Bal n G) (hF:∀ th no,Rq n (F th no)):∀ k,k<=(mm.wd 2).toNat->Bal n (H k):=by
 intro k
 induction k with
 |zero=>intro _;rw [h.beg];exact hG
 |succ k ih=>
  intro hk;obtain ⟨i,z,M,_,q2,q3,q4⟩:=h.pub k (by omega);exact ((Pa (hF _ _) (ih (by omega)) q2 (by omega)).2.2.2.2 q3).ext q4
theorem Lp (m:Zk) (v:Nat):(m.step v).1.tag=m.tag:=by
 cases hw:m.waits with
 |true=>
  unfold Zk.step;rw [P9 hw]
 |false=>exact (Qw v hw).tag
theorem solo_tag (h:Vz g m0 m):m.tag=m0.tag:=by
 induction h with
 |nil=>rfl
 |step v h hk ih=>rw [Lp];exact ih
 |@read m v h hk ih=>
  show ((m.step v).1).tag=_;rw [Lp];exact ih
theorem Dh {mm:Zh} {i:Int} (h0:0<=i) (h1:i < mm.ws.length):mm.xh i=mm.wd i.toNat:=by
 unfold Zh.xh Zh.bad;rw [P9 (by rw [Q9 (by omega)])];rfl
theorem Ah (k:Yi s) (hc:t < s.c0.toNat) {u:Nat} (h:Vc s.mem s.c1 t (s.mem.wd 2) u):s.qm t=u:=by
 have hl:=k.len;have hb:=k.cfg.b0;unfold Zw at hl;unfold Zn.qm;rw [Dh (by unfold Z2;omega) (by unfold Z2;omega),Dh (by unfold Z2;omega) (by unfold Z2;omega),Dh (by unfold Z2;omega) (by unfold Z2;omega),Dh (by omega) (by omega)];have e0:s.mem.wd (Z2 s.c1+3 * (t:Int)).toNat=s.mem.qs s.c1 t:=by unfold Zh.qs Zh.cw;rw [Int.add_zero]
 have e1:Zq (s.mem.wd (Z2 s.c1+3 * (t:Int)+1).toNat).toNat=s.mem.zf s.c1 t:=J;have e2:Zq (s.mem.wd (Z2 s.c1+3 * (t:Int)+2).toNat).toNat=s.mem.xj s.c1 t:=J;rw [e0];unfold atB;rw [e1,e2];rcases h with ⟨p,q⟩|⟨p,q⟩
 ·rw [Q9 (by show ¬ (s.mem.wd 2 < _);omega)];exact q
 ·rw [P9 (by show s.mem.wd 2 < _;omega)];exact q
structure Pu (n:Nat) (cs:List (List (Int×List Nat))) (s:Zn):Prop where
 ok:Yi s
 si:Qa s
 li:s.LI
 yc:s.oi
 c2:s.c2=60
 nt:s.qi.length=4
 c0:s.c0=n
 calls:s.qi.map (·.calls.length)=(List.range 4).map (λ t=>(cs.getD t []).length)
 bm:∀ th no,Rq n ((X0 n cs).mF th no)
 hist:∃ H,Ua H (λ c=>(X0 n cs).mem.zf 4 c) (X0 n cs).mF s.mem s.c0 s.c1 s.qe/\∀ k,k<=(s.mem.wd 2).toNat->Bal n (H k)
theorem bank_s (h:Ut n cs) (R:Qn (X0 n cs) ts s) (ht:∀ t∈ts,t < 4) (hn:ts.length < 1000000000):Pu n cs s:=by
 have k0:Yi (X0 n cs):=T5 h.set h.oy;have s0:Qa (X0 n cs):=Tc h.cf;have r0:(X0 n cs).RI:=Wr h.cf;have n0:(X0 n cs).qi.length=4:=by simp [X0,Vt]
 have ht':∀ t∈ts,t < (X0 n cs).qi.length:=λ t q=>by rw [n0];exact ht t q
 have ot:(X0 n cs).steps=0:=J;have hn':(X0 n cs).steps+ts.length < 1000000000:=by rw [ot];omega
 obtain ⟨k,hk⟩:=R.ok k0 ht';obtain ⟨si,_⟩:=R.sinv k0 s0 Lm ht' hn';obtain ⟨⟨H,hh⟩,_⟩:=R.hi k0 s0 r0 (newE_hi h.cf) J ht' hn';have sm:=R.same k0 ht';refine ⟨k,si,R.li k0 s0 (newE_li h.cf) ht' hn',R.yc k0 newE_cnt ht',sm.c2,by rw [hk,n0],sm.c0,?_,Oh h,H,hh,Iz hh (Aj h.xq) (Oh h)⟩;have e:=congrArg (List.map List.length) sm.calls;rw [List.map_map,List.map_map] at e;refine (show s.qi.map (·.calls.length)=_ from e).trans ?_;show ((List.range (4:Int).toNat).map (λ t=>(⟨cs.getD t [],0,O⟩:Qy))).map _=_;rw [List.map_map];rfl
theorem Pu.state (h:Pu n cs s):∃ G:Nat->Nat,s.state=(List.range n).map (λ c=>fl (G c))/\Q4 G n=100 * n:=by
 obtain ⟨H,hh,hb⟩:=h.hist;obtain ⟨G,hG,hS⟩:=hb _ (Nat.le_refl _);refine ⟨G,?_,hS⟩;have e0:s.c0.toNat=n:=by rw [h.c0];omega
 unfold Zn.state;rw [e0];refine List.map_congr_left λ c hc=>?_;have hc:=List.mem_range.1 hc;rw [<-hG c hc];exact Ah h.ok (by omega) (hh.now c (by omega) (by rw [h.c0];omega))
theorem Pu.ze (h:Pu n cs s) (ho:s.qf=true):s.view.length=((List.range 4).map (λ t=>(cs.getD t []).length)).sum/\
  ∀ d∈s.view,d.qn=(if d.qq=2 then 7 else 0)/\d.zd=0/\(d.qq=1\/(d.qq=2/\d.tag=2))/\(d.tag≠2->d.out=[fl (100 * n)]):=by
 obtain ⟨z1,z2⟩:=E2 h.ok ho;obtain ⟨H,hh,hb⟩:=h.hist;refine ⟨?_,λ d hd=>?_⟩
 ·unfold Zn.view;rw [List.length_map,h.yc,z2,h.calls]
 ·obtain ⟨z,hz,rfl⟩:=List.mem_map.1 hd;obtain ⟨i,hi,rfl⟩:=List.mem_iff_getElem.1 hz;have hi':s.qe[i]? =I s.qe[i]:=List.getElem?_eq_getElem hi;have hg:=z1 _ hz;generalize s.qe[i]=z at *
  obtain ⟨raw,g⟩:=z;obtain rfl:g=O:=hg;have jl:=hh.jl i raw hi'
  by_cases e:raw.tag=2
  ·obtain ⟨M,⟨p,hp,hs,_⟩,⟨_,_,t3,t4,t5,t6⟩,t7,t8⟩:=jl.w e;have bm:=h.bm raw.th raw.no;obtain ⟨q1,q2,q3,q4,_⟩:=Pa bm (hb p hp) hs t7;refine ⟨by show raw.qn=(if raw.qq=2 then 7 else 0);rw [t4,t5];exact q1,by show raw.zd=0;rw [t6];exact q2,?_,λ q=>absurd e q⟩;show raw.qq=1\/(raw.qq=2/\raw.tag=2);rw [t4];rcases q3 with q3|q3
   ·exact .inl q3
   ·exact .inr ⟨q3.1,e⟩
  ·obtain ⟨M,p,hp,_,hs,⟨_,_,t3,t4,t5,t6⟩,t7,t8⟩:=jl.r e;have bm:=h.bm raw.th raw.no;have tg:=solo_tag hs;obtain ⟨q1,q2,q3,q4,_⟩:=Pa bm (hb p hp) hs t7;have q3:M.qq=1:=by
    rcases q3 with q3|q3
    ·exact q3
    ·exact absurd (tg.trans q3.2) t8
   refine ⟨by show raw.qn=(if raw.qq=2 then 7 else 0);rw [t4,t5];exact q1,by show raw.zd=0;rw [t6];exact q2,.inl (by show raw.qq=1;rw [t4];exact q3),λ _=>?_⟩;show raw.out=_;rw [t3];exact q4 (by rw [<-tg];exact t8)
theorem Pu.round (h:Pu n cs s) (R:Qn s [0,1,2,3] r) (hno:s.qf=false):r.left+1<=s.left:=by
 have nt:=h.nt;refine Sg R h.ok h.si h.li (by rw [h.c2];decide) (λ t ht=>?_) (by decide) (λ t ht=>?_) hno
 ·rw [nt];simp only [List.mem_cons,List.not_mem_nil,or_false] at ht;omega
 ·simp only [List.mem_cons,List.not_mem_nil,or_false];omega
theorem Iy (h:Ut n cs) (R:Qn (X0 n cs) ts s) (ht:∀ t∈ts,t < 4):s.left<=12000:=by
 have n0:(X0 n cs).qi.length=4:=by simp [X0,Vt]
 have:=(R.left (T5 h.set h.oy) (by show (60:Int)<=60;decide) (λ t q=>by rw [n0];exact ht t q)).1;have e:(X0 n cs).left=400 * ((List.range (4:Int).toNat).map (λ t=>(cs.getD t []).length)).sum:=Ia;have hs:=h.sum;rw [show (4:Int).toNat=4 from J] at e;omega
end
section
variable {w w0 w':W} {x n:Nat} {e0 s:Zn} {ts:List Nat} {v:Value} {cs:List (List (Int×List Nat))}
structure Jh (w0:W) (x:Nat) (e0:Zn) (ts:List Nat) (s:Zn) (g:Nat) (o:Option Obj) (w:W):Prop where
 zq:∃ lab P,P.x=x/\Ys w0 w lab P s/\lab g=0/\g < w.heap.size/\w.heap[g]? =o
 go:Xx w0 x e0 ts s w
variable {g:Nat} {o:Option Obj}
theorem Jh.mk' (h:Xx w0 x e0 ts s w) (m:Ze [] w w') (h1:w.heap.size<=g) (h2:g < w'.heap.size):Jh w0 x e0 ts s g w'.heap[g]? w':=by
 obtain ⟨lab,P,e,q⟩:=h.zq;exact ⟨⟨_,P,e,q.quiet m (Ui 0),Jx h1,h2,J⟩,h.mod m⟩
theorem Jh.mod (h:Jh w0 x e0 ts s g o w) (m:Ze [] w w'):Jh w0 x e0 ts s g o w':=by
 obtain ⟨lab,P,e,q,q2,q3,q4⟩:=h.zq;exact ⟨⟨lab,P,e,q.quiet m Z3,q2,Nat.lt_of_lt_of_le q3 m.size,(m.block g q3 (by simp)).trans q4⟩,h.go.mod m⟩
theorem Jh.vg {l:List Int} (h:Jh w0 x e0 ts s g o w) (hv:Bf w v l) (hl:l.length<=65536) (hn:ts.length+l.length < 1000000000):
  Calls N 9 #[E (I ⟨x,0,O⟩),v] w λ e w'=>∃ n s',e=R_ (.tuple #[U Y n,U Y 0])/\Qn s (Vm e0.qi.length l) s'/\Jh w0 x e0 (ts++Vm e0.qi.length l) s' g o w':=by
 obtain ⟨k,hk⟩:=h.go.gf;obtain ⟨lab,P,e,h2,z1,z2,z3⟩:=id h.zq;have hst:=h.go.run.steps;have C:=_root_.Go.Proofs.YtkhonmhnchdpkaaGreat.vg h2 k hv hl (by rw [h.go.z] at hst;omega);unfold Xy at C;rw [e] at C;refine C.mono ?_;rintro e' w2 ⟨n,s',rfl,R,lab2,P2,q1,q2,q3⟩;rw [hk] at R;refine ⟨n,s',J,R,⟨lab2,P2,q2.x.trans e,q1,q3.own g z2 z1,Nat.lt_of_lt_of_le z2 q3.size,(q3.blk g z2 z1).trans z3⟩,h.go.run.trans R,⟨lab2,P2,q2.x.trans e,q1⟩,h.go.ok,h.go.si,h.go.ln,?_,h.go.z⟩;intro t ht;rcases List.mem_append.1 ht with ht|ht
 ·exact h.go.lt t ht
 ·exact N5 (by rw [<-hk];exact h2.n1) l t ht
theorem ints_blk {c:Nat} {l:List Int} (h:Bf w (L (I ⟨g,0,O⟩) l.length c) l) (hs:g < w'.heap.size) (e:w'.heap[g]? =w.heap[g]?):Bf w' (L (I ⟨g,0,O⟩) l.length c) l:=by
 obtain ⟨a,cap,ev,h⟩:=h;refine ⟨a,cap,ev,h.imp id ?_⟩;rintro ⟨b,off,ea,hb,hc⟩;simp only [Value.slice.injEq] at ev;rw [<-ev.1] at ea;simp only [Option.some.injEq,Addr.mk.injEq] at ea;obtain ⟨rfl,rfl,_⟩:=ea;refine ⟨g,0,ev.1.symm,hs,λ i hi=>?_⟩;exact (World.cell?_of_block (w:=w) (a:=⟨g,0+i,O⟩) e).trans (hc i hi)
theorem own_ints {b:Nat} {l:List Int} (h:w.ownsRow b 3 1 v l.length (l.map (Value.int .i64))):Bf w v l:=by
 obtain ⟨a,c,rfl⟩:=Zo h;refine ⟨a,c,J,?_⟩;rcases Nat.eq_zero_or_pos l.length with h0|h0
 ·exact .inl (List.length_eq_zero_iff.1 h0)
 ·obtain ⟨g,c',e,_⟩:=Ya h h0;simp only [Value.slice.injEq,true_and] at e;obtain ⟨rfl,rfl⟩:=e;refine .inr ⟨g,0,J,(h.lt g J).2,λ i hi=>?_⟩;rw [Nat.zero_add];have:=h.cellAt i (by omega);rw [this,List.getElem?_map,List.getElem?_eq_getElem hi,G_,List.getElem?_eq_getElem hi];rfl
theorem rnd_ex (s:Zn):∀ l:List Nat,∃ r,Qn s l r:=by
 intro l
 induction l generalizing s with
 |nil=>exact ⟨s,.nil s⟩
 |cons t l ih=>
  obtain ⟨r,h⟩:=ih (s.step t 0);exact ⟨r,.cons 0 h⟩
theorem ths4:(X0 n cs).qi.length=4:=by simp [X0,Vt]
theorem fold4:Vm 4 [0,1,2,3]=[0,1,2,3]:=by decide
theorem Cg (hb:Ut n cs) (G:Xx w0 x (X0 n cs) ts s w) (hl:ts.length < 1000000000):Pu n cs s:=
 bank_s hb G.run (λ t ht=>by have:=G.lt t ht;rwa [ths4] at this) hl
theorem finish_c (hb:Ut n cs) (G:Xx w0 x (X0 n cs) ts s w) (hl:ts.length<=5000):
  Calls N 19 #[E (I ⟨x,0,O⟩),U Y 4,U Y 12000] w λ e w'=>e=R_ (.tuple #[])/\∃ ts' s',Xx w0 x (X0 n cs) ts' s' w'/\ts'.length<=60000/\s'.qf=true:=by
 have hleft:=Iy hb G.run (λ t ht=>by have:=G.lt t ht;rwa [ths4] at this);have HB:=Zh_ hb;have HG:=Zh_ G;have HL:=Zh_ hl;have HF:=Zh_ hleft;clear hb G hl hleft;go_enter func19,ntmps19;go_wp2_with fail
 go_loopw [6,7] (λ a i wx=>∃ k:Nat,k<=4/\i=U Y k/\wx.ownsRow w.heap.size 3 1 a k ((List.range k).map (λ t:Nat=>U Y (t:Int)))/\Ze [] w wx) (λ _ i _=>4 - (intOf i).toNat)
 case atStart=>exact ⟨0,by omega,rfl,World.ownsRow_nil _ _ _ _,Zr_ _ _⟩
 case round=>
  obtain ⟨k,hk,rfl,hown,m⟩:=hrel
  by_cases hlt:k < 4
  ·have d4:decide ((k:Int) < 4)=true:=decide_eq_true (by omega);obtain ⟨i0,hi0,hz0,hz1,hz2⟩:=info_parts W1;go_wp2_with (at_builtin;refine Ot J _ _ 34 J w.heap.size 3 i0 (U Y 0) underlying34 hi0 hz0 hz1 hz2 J _ _ _ J (hown.alloc _) ⟨wr.heap.size,0,O⟩ 1 1 [U Y (k:Int)] J J ?c1 ?c2 ?c3 ?c4 ?_)
   case c1=>exact cell_one_new _ _ _
   case c2=>intro u hu;simp at hu;subst hu;rfl
   case c3=>omega
   case c4=>have:=m.size;simp;omega
   intro v' w2 hap;have hown2:w2.ownsRow w.heap.size 3 1 v' (k+1) ((List.range (k+1)).map (λ t:Nat=>U Y (t:Int))):=by
    rw [List.range_succ,List.map_append];exact hap.owns
   have m2:=m.uf _ hown (Nat.le_refl _) hap;clear hap hown m;go_wp2;go_roundw
   case rel=>exact ⟨k+1,by omega,by go_num,hown2,m2⟩
   case measure=>simp [intOf];omega
  ·have d4:decide ((k:Int) < 4)=false:=D9 (by omega);obtain rfl:k=4:=by omega
   rw [show ((4:Nat):Int)=4 from J] at d4 ⊢
   obtain ⟨sa,sc,rfl⟩:=Zo hown;have qV:Bf wr (L sa 4 sc) [0,1,2,3]:=own_ints (b:=w.heap.size) hown;obtain ⟨gg,cc,ev,hge⟩:=Ya hown (by decide);simp only [Value.slice.injEq,true_and] at ev;obtain ⟨rfl,rfl⟩:=ev;have hlt2:=(hown.lt gg J).2;obtain ⟨o,ho⟩:∃ o,o=wr.heap[gg]?:=⟨_,J⟩;have HI:=Zh_ (show ∀ wx,gg < wx.heap.size->wx.heap[gg]? =o->Bf wx (L (I ⟨gg,0,O⟩) 4 sc) [0,1,2,3] from λ wx h1 h2=>ints_blk (l:=[0,1,2,3]) qV h1 (h2.trans ho));have HG2:=Zh_ (ho ▸ Jh.mk' HG.out m hge hlt2:Jh w0 x (X0 n cs) ts s gg o wr);clear hown qV m HG hge hlt2 ho;go_wp2_with fail;generalize wr=w1 at *
   go_loopw [8] (λ i wx=>∃ j:Nat,j<=12000/\i=U Y j/\∃ ts' s',Jh w0 x (X0 n cs) ts' s' gg o wx/\ts'.length<=5000+4 * j/\s'.left+j<=12000) (λ i _=>12000 - (intOf i).toNat)
   case atStart=>exact ⟨0,by omega,rfl,ts,s,HG2.out,by have:=HL.out;omega,by have:=HF.out;omega⟩
   case round=>
    obtain ⟨j,hj,rfl,ts',s',G,hl,hf⟩:=hrel;have S:=Cg HB.out G.go (by omega);have HG3:=Zh_ G;have HL3:=Zh_ hl;have HF3:=Zh_ hf;clear G hl hf HG2 HL HF
    by_cases hlt:j < 12000
    ·have d4:decide ((j:Int) < 12000)=true:=decide_eq_true (by omega);have hR:=λ r R h=>S.round (r:=r) R h;have HR:=Zh_ hR;clear S hR;obtain ⟨ov,hov⟩:∃ b,b=s'.qf:=⟨_,J⟩;have HO:=Zh_ hov;have C:=HG3.out.go.km;rw [<-hov] at C;have HC:=Zh_ C;clear hov C;cases ov with
     |true=>
      go_wp2_with fail;refine HC.out.mono ?_;rintro e w2 ⟨rfl,m2⟩;have HG4:=Zh_ (HG3.out.mod m2);clear m2 HG3;go_wp2;go_end0;exact ⟨J,ts',s',HG4.out.go,by have:=HL3.out;omega,HO.out.symm⟩
     |false=>
      go_wp2_with fail;refine HC.out.mono ?_;rintro e w2 ⟨rfl,m2⟩;have HG4:=Zh_ (HG3.out.mod m2);clear m2 HG3;have I4:=(show _ from (by obtain ⟨_,_,_,_,_,z2,z3⟩:=HG4.out.zq;exact HI.out _ z2 z3):Bf w2 (L (I ⟨gg,0,O⟩) 4 sc) [0,1,2,3]);go_wp2_with fail;refine (HG4.out.vg I4 (by decide) (by have:=HL3.out;simp;omega)).mono ?_;rintro e w3 ⟨n3,s3,rfl,R,G3⟩;rw [ths4,fold4] at R G3;have hle:=HR.out _ R HO.out.symm;have HG5:=Zh_ G3;have HLE:=Zh_ hle;clear R G3 hle I4;go_wp2;go_roundw
      case rel=>exact ⟨j+1,by omega,by go_num,_,s3,HG5.out,by have:=HL3.out;simp;omega,by have:=HF3.out;have:=HLE.out;omega⟩
      case measure=>simp [intOf];omega
    ·have hj2:j=12000:=by omega
     have d4:decide ((j:Int) < 12000)=false:=D9 (by omega);have hov:s'.qf=true:=by
      cases ho:s'.qf with
      |true=>rfl
      |false=>
       obtain ⟨r,R⟩:=rnd_ex s' [0,1,2,3];have:=S.round R ho;have:=HF3.out;omega
     have HO:=Zh_ hov;clear S hov;go_wp2;go_end0;exact ⟨J,ts',s',HG3.out.go,by have:=HL3.out;omega,HO.out⟩
end
section
variable {w w':W} {b0 z t n B:Nat} {us:List Value} {cs:List (List (Int×List Nat))} {dl:List Value} {l:List (Int×List Nat)} {S:List Nat} {v:Value}
def Tq (w:W) (a:List Nat) (u:Value):Prop:=(u=L O 0 0/\a=[])\/∃ B,u=L (I ⟨B,0,O⟩) a.length a.length/\w.heap[B]? =I (.cells (a.map (Z V)).toArray 51 (0,0))
theorem Tq.mod {a:List Nat} {u:Value} (h:Tq w a u) (m:Ze S w w') (hS:∀ k∈S,Xt w k≠I 51):Tq w' a u:=by
 rcases h with h|⟨B,h1,h2⟩
 ·exact .inl h
 ·exact .inr ⟨B,h1,m.at h2 (λ hm=>hS B hm (Zp h2))⟩
structure Gn (w:W) (dl:List Value) (l:List (Int×List Nat)):Prop where
 len:dl.length=l.length * 2
 zq:∀ j,j < l.length->∃ u,dl[j * 2]? =I (U Y (l.getD j (0,[])).1)/\dl[j * 2+1]? =I u/\Tq w (l.getD j (0,[])).2 u
theorem Gn.mod (h:Gn w dl l) (m:Ze S w w') (hS:∀ k∈S,Xt w k≠I 51):Gn w' dl l:=
 ⟨h.len,λ j hj=>by obtain ⟨u,a,b,c⟩:=h.zq j hj;exact ⟨u,a,b,c.mod m hS⟩⟩
theorem Gn.snoc {p:Int} {a:List Nat} {u:Value} (h:Gn w dl l) (hu:Tq w a u):Gn w (dl++[U Y p,u]) (l++[(p,a)]):=by
 refine ⟨by simp [h.len];omega,λ j hj=>?_⟩;rw [List.length_append,List.length_singleton] at hj
 by_cases e:j=l.length
 ·subst e;have e1:(l++[(p,a)]).getD l.length (0,[])=(p,a):=by simp [G_]
  rw [e1];refine ⟨u,?_,?_,hu⟩
  ·rw [<-h.len];simp
  ·rw [<-h.len,List.getElem?_append_right (by omega),show dl.length+1 - dl.length=1 by omega];rfl
 ·have hj':j < l.length:=by omega
  obtain ⟨u',a1,a2,a3⟩:=h.zq j hj';have e1:(l++[(p,a)]).getD j (0,[])=l.getD j (0,[]):=by rw [G_,G_,List.getElem?_append_left hj']
  rw [e1];have hl:=h.len;exact ⟨u',by rw [List.getElem?_append_left (by omega)];exact a1,by rw [List.getElem?_append_left (by omega)];exact a2,a3⟩
structure ThB (w:W) (b0 z:Nat) (us:List Value) (cs:List (List (Int×List Nat))):Prop where
 l4:us.length=4
 c4:cs.length=4
 zb:w.heap[z]? =I (.cells us.toArray 61 (0,0))
 row:∀ t,t < 4->∃ dl,w.ownsRow b0 63 2 (us.getD t undef) (cs.getD t []).length dl/\Gn w dl (cs.getD t [])
 dis:∀ t u,t < 4->u < 4->t≠u->∀ g,(us.getD t undef).ownBlock=I g->(us.getD u undef).ownBlock≠I g
 om:z < b0
theorem own_tyb {b s:Nat} {ty:TypeId} {xs:List Value} (h:w.ownsRow b ty s v n xs) {g:Nat} (hg:v.ownBlock=I g):Xt w g=I ty:=by
 rcases h.2 with ⟨rfl,_⟩|⟨g',cap,cur,rfl,_,hgg,_⟩
 ·simp [Value.ownBlock] at hg
 ·simp [Value.ownBlock] at hg;subst hg;exact Zp hgg
theorem ThB.mod (h:ThB w b0 z us cs) (m:Ze [] w w'):ThB w' b0 z us cs:=
 ⟨h.l4,h.c4,m.at h.zb (by simp),λ t ht=>by obtain ⟨dl,a,b⟩:=h.row t ht;exact ⟨dl,Xk a m (by simp),b.mod m (by simp)⟩,h.dis,h.om⟩
theorem set4 {α:Type} {l:List α} {x d:α} {t u:Nat} (h:l.length=4) (ht:t < 4):(l.set t x).getD u d=if u=t then x else l.getD u d:=by
 simp only [G_,List.getElem?_set]
 by_cases e:t=u
 ·subst e;simp [h,ht]
 ·simp [e,Ne.symm e]
theorem ThB.snoc (h:ThB w b0 z us cs) (ht:t < 4) {dl:List Value} (ho:w.ownsRow b0 63 2 (us.getD t undef) (cs.getD t []).length dl) (hc:Gn w dl (cs.getD t [])) {v':Value} {p:Int} {a:List Nat} {u:Value} (hu:Tq w' a u)
  (m:Ze (us.getD t undef).ownBlock.toList w w') (row:w'.ownsRow b0 63 2 v' ((cs.getD t []).length+1) (dl++[U Y p,u])) (hat:∀ g,v'.ownBlock=I g->(us.getD t undef).ownBlock=I g\/w.heap.size<=g):
  ThB (w'.setCell ⟨z,t,O⟩ v') b0 z (us.set t v') (cs.set t (cs.getD t []++[(p,a)])):=by
 have h63:∀ k∈(us.getD t undef).ownBlock.toList,Xt w k=I 63:=λ k hk=>own_tyb ho (Option.mem_toList.1 hk);have z0:z∉(us.getD t undef).ownBlock.toList:=λ hm=>by have:=h63 z hm;rw [Zp h.zb] at this;cases this
 have zb:=m.at h.zb z0;have mz:Ze [z] w' (w'.setCell ⟨z,t,O⟩ v'):=(Zr_ _ _).setCell _ _ (.inl (by simp));have hz51:∀ k∈[z],Xt w' k≠I 51:=λ k hk e=>by simp at hk;subst hk;rw [Zp zb] at e;cases e
 refine ⟨by simp [h.l4],by simp [h.c4],?_,λ q hq=>?_,λ q r hq hr hne g hg=>?_,h.om⟩
 ·have:=Zd (i:=t) v' zb;rw [this];simp
 ·rw [set4 h.l4 ht,set4 h.c4 ht]
  by_cases e:q=t
  ·subst e;rw [P9 rfl,P9 rfl];refine ⟨_,by rw [List.length_append];exact Xk row mz (λ g hg hm=>by simp at hm;have:=(row.lt g hg).1;have:=h.om;omega),?_⟩;exact ((hc.mod m (λ k hk e=>by rw [h63 k hk] at e;cases e)).snoc hu).mod mz hz51
  ·rw [Q9 e,Q9 e];obtain ⟨dl2,a1,a2⟩:=h.row q hq;refine ⟨dl2,Xk (Xk a1 m (λ g hg hm=>h.dis q t hq ht e g hg (Option.mem_toList.1 hm))) mz (λ g hg hm=>by simp at hm;have:=(a1.lt g hg).1;have:=h.om;omega),?_⟩;exact (a2.mod m (λ k hk e=>by rw [h63 k hk] at e;cases e)).mod mz hz51
 ·rw [set4 h.l4 ht] at hg ⊢
  by_cases e1:q=t
  ·rw [P9 e1] at hg;rw [Q9 (λ e2=>hne (e1.trans e2.symm))];rcases hat g hg with e|e
   ·exact h.dis t r ht hr (λ e2=>hne (e1.trans e2)) g e
   ·intro e2;obtain ⟨dl2,a1,_⟩:=h.row r hr;have:=(a1.lt g e2).2;omega
  ·rw [Q9 e1] at hg
   by_cases e2:r=t
   ·rw [P9 e2];intro e3;rcases hat g e3 with e|e
    ·exact h.dis q t hq ht e1 g hg e
    ·obtain ⟨dl2,a1,_⟩:=h.row q hq;have:=(a1.lt g hg).2;omega
   ·rw [Q9 e2];exact h.dis q r hq hr hne g hg
theorem Fx {l:List Value} (hl:t < l.length):l.toArray[t]? =I (l.getD t undef):=by
 simp [G_,hl]
theorem ThB.thr (h:ThB w b0 z us cs):Hi w (L (I ⟨z,0,O⟩) 4 4) cs:=by
 refine ⟨_,4,by rw [h.c4],λ i hi=>?_⟩;rw [h.c4] at hi;refine ⟨z,0,us.getD i undef,J,B9 h.zb,by rw [Nat.zero_add];exact Za h.zb (Fx (by rw [h.l4];exact hi)),?_⟩;obtain ⟨dl,ho,hc⟩:=h.row i hi;obtain ⟨a,c,e⟩:=Zo ho;rw [e] at ho ⊢
 refine ⟨a,c,J,λ j hj=>?_⟩;obtain ⟨g,c',e2,_⟩:=Ya ho (by omega);simp only [Value.slice.injEq,true_and] at e2;obtain ⟨rfl,rfl⟩:=e2;obtain ⟨u,q1,q2,q3⟩:=hc.zq j hj;refine ⟨g,0,u,J,(ho.lt g J).2,?_,?_,?_⟩
 ·rw [Nat.zero_add,ho.cellAt _ (by omega)];exact q1
 ·rw [Nat.zero_add,ho.cellAt _ (by omega)];exact q2
 ·rcases q3 with ⟨rfl,e3⟩|⟨B,rfl,hB⟩
  ·rw [e3];exact ⟨J,.inl ⟨J,J⟩⟩
  ·refine ⟨by simp,.inr ⟨⟨B,0,O⟩,_,rfl,λ j u hu=>⟨B9 hB,?_⟩⟩⟩;have e:(⟨B,0,O⟩:Addr).add j=⟨B,j,O⟩:=by have:=Uz B 0 j;rw [Nat.zero_add] at this;exact this
   rw [e];exact Za hB (by simpa using hu)
structure Aw (n:Nat) (cs:List (List (Int×List Nat))) (k:Nat):Prop where
 c:∀ l∈cs,∀ c∈l,Mk n c
 sum:((List.range 4).map (λ t=>(cs.getD t []).length)).sum=k
theorem Aw.snoc {k:Nat} (h:Aw n cs k) (h4:cs.length=4) (ht:t < 4) {c:Int×List Nat} (hc:Mk n c):Aw n (cs.set t (cs.getD t []++[c])) (k+1):=by
 refine ⟨λ l hl d hd=>?_,?_⟩
 ·rcases List.mem_or_eq_of_mem_set hl with hm|e
  ·exact h.c l hm d hd
  ·subst e;rcases List.mem_append.1 hd with hd|hd
   ·exact h.c _ (Ki (by omega)) d hd
   ·simp at hd;subst hd;exact hc
 ·have hs:=h.sum;rw [sum4] at hs ⊢
  simp only [set4 h4 ht];have q:∀ u:Nat,(if u=t then cs.getD t []++[c] else cs.getD u []).length=if u=t then (cs.getD t []).length+1 else (cs.getD u []).length:=λ u=>by split <;> simp
  rw [q,q,q,q];rcases (show t=0\/t=1\/t=2\/t=3 by omega) with rfl|rfl|rfl|rfl
  ·rw [P9 rfl,Q9 (by decide),Q9 (by decide),Q9 (by decide)];omega
  ·rw [P9 rfl,Q9 (by decide),Q9 (by decide),Q9 (by decide)];omega
  ·rw [P9 rfl,Q9 (by decide),Q9 (by decide),Q9 (by decide)];omega
  ·rw [P9 rfl,Q9 (by decide),Q9 (by decide),Q9 (by decide)];omega
theorem Aw.ok {k:Nat} (h:Aw n cs k) (h4:cs.length=4) (n2:2<=n) (xq:n<=10) (hk:k<=30):Ut n cs:=⟨n2,xq,h.c,h4,by rw [h.sum];exact hk⟩
def Moves (w:W) (v:Value) (l:List (Int×Int×Int×Int)):Prop:=
 ∃ a cap,v=L a l.length cap/\∀ i,i < l.length->∃ g o,a=I ⟨g,o,O⟩/\g < w.heap.size/\w.cell? ⟨g,o+i * 4,O⟩=I (U Y (l.getD i (0,0,0,0)).1)/\w.cell? ⟨g,o+i * 4+1,O⟩=I (U Y (l.getD i (0,0,0,0)).2.1)/\
  w.cell? ⟨g,o+i * 4+2,O⟩=I (U Y (l.getD i (0,0,0,0)).2.2.1)/\w.cell? ⟨g,o+i * 4+3,O⟩=I (U Y (l.getD i (0,0,0,0)).2.2.2)
end
end Go.Proofs.YtkhonmhnchdpkaaGreat
