/- A part of the proof; no condition. -/
import Derived.Test.YtkhonmhnchdpkaaGreatB28
set_option maxRecDepth 100000
set_option maxHeartbeats 40000000
namespace Go.Proofs.YtkhonmhnchdpkaaGreat
open Go.RowKit _root_.Go.Proofs.Tryz
open Go renaming World→W
open Option renaming some→I,none→O
open List renaming getD_eq_getElem?_getD→G_
section
variable {H H':Nat->Int->Nat} {G:Int->Nat} {F:Int->Int->Zk} {m m':Zh} {c0 c1 c st:Int} {qe:List Vb} {i v K K' p:Nat} {z:Vb} {x x':Zv} {y y':Z8} {raw:Zu} {r:Yu} {m0 M:Zk} {u u':Nat}
theorem RdH.zl (k:Bc c0 c1) (hl:(m.ws.length:Int)=Zw c0 c1) (o:Rl c0 c1 y r) (hn:y.qh.n=3) (G:∀ c,0<=c->c < c0->Vc m c1 c y.qh.st (H y.qh.st.toNat c)) (qV:P7 m c1 r (H y.qh.st.toNat r.c)) (w:Waits (H y.qh.st.toNat) m0 y.m r.c):
  RdH H m0 (y.zl r m.opened).1:=by
 have gr:=G r.c o.lo o.hi;rw [<-o.st] at gr;obtain ⟨-,q⟩:=Jc k hl o;rcases q with ⟨h4,e⟩|⟨h4,e⟩
 ·rw [e];refine ⟨λ a=>absurd hn a,λ _ _=>?_,λ _ r' hr'=>by cases hr'⟩;obtain ⟨m1,v1,q1,q2,q3,q4⟩:=w;show Vz (H y.qh.st.toNat) m0 (y.m.xl (r.qz (m.cw c1 r.c r.qu)).va);rcases qV.qz (by rw [o.st] at gr ⊢;exact gr) with ⟨_,hv⟩|⟨hn4,_⟩
  ·rw [hv,q3];rw [<-q4];exact Vz.read v1 q1 q2
  ·exact absurd h4 hn4
 ·rw [e];refine ⟨λ a=>absurd hn a,λ _ hr'=>(by cases hr'),λ _ r' hr'=>?_⟩;have hr':I (r.qz (m.cw c1 r.c r.qu))=I r':=hr';obtain rfl:=Zo_ hr';rw [(Hl r _).2.1];exact w
theorem W5 (h:Vc m c1 c st u) (e:m'.ws=m.ws):Vc m' c1 c st u:=by
 have w:∀ n,m'.wd n=m.wd n:=λ n=>by unfold Zh.wd;rw [e]
 unfold Vc Zh.qs Zh.zf Zh.xj Zh.cw at *
 simp only [w];exact h
theorem Ua.kk (h:Ua H G F m c0 c1 qe) (hR:Vn m c0 c1 qe) (o:Pe c0 c1 m qe) (hi:qe[i]? =I ⟨raw,I (.rd y)⟩) (v:Nat)
  (hz:(z.g=I (.rd (y.step m.opened v).1)/\(y.step m.opened v).1.part≠4/\z.raw=raw)\/
   (z.g=O/\(y.step m.opened v).1.part=4/\z.raw.th=raw.th/\z.raw.no=raw.no/\z.raw.tag≠2/\z.raw.mark=wrap64 (y.step m.opened v).1.qh.st/\Oj z.raw (y.step m.opened v).1.m)):Ua H G F (y.step m.opened v).2 c0 c1 (qe.set i z):=by
 have hs:=o.r i raw y hi;have t0:=hs.t0;have t1:=hs.t1;have b0:=o.k.b0;have p1:=hs.p1;have p3:=hs.p3;have hsml:=o.small;have hil:=(List.getElem?_eq_some_iff.1 hi).1;have rh:=h.rm i raw y hi;have hzr:∀ y',z.g=I (.rd y')->y'=(y.step m.opened v).1/\z.raw=raw:=by
  intro y' e;rcases hz with ⟨e2,_,e3⟩|⟨e2,_⟩
  ·rw [e2] at e;simp at e;exact ⟨e.symm,e3⟩
  ·rw [e2] at e;cases e
 have hzw:∀ x,z.g≠I (.wr x):=by
  intro x e;rcases hz with ⟨e2,_⟩|⟨e2,_⟩
  ·rw [e2] at e;cases e
  ·rw [e2] at e;cases e
 have hkey:∀ z0,qe[i]? =I z0->z0.raw.th=z.raw.th/\z0.raw.no=z.raw.no:=by
  intro z0 e;rw [hi] at e;obtain rfl:=Zo_ e;rcases hz with ⟨_,_,e3⟩|⟨_,_,e3,e4,_⟩
  ·rw [e3];exact ⟨J,J⟩
  ·exact ⟨e3.symm,e4.symm⟩
 have main:V1 m (y.step m.opened v).2 c0 c1->(y.step m.opened v).2.wd 2=m.wd 2->(y.part≠3->((y.step m.opened v).1.qh.n=3->∀ c,0<=c->c < c0->Vc (y.step m.opened v).2 c1 c (y.step m.opened v).1.qh.st (H (y.step m.opened v).1.qh.st.toNat c))/\RdH H (F raw.th raw.no) (y.step m.opened v).1)->
   (y.part=3->(y.step m.opened v).1.part=4)->(y.part≠3->(y.step m.opened v).1.part≠4)->(y.part=3->(y.step m.opened v).1.qh=y.qh/\(y.step m.opened v).1.m=y.m)->Ua H G F (y.step m.opened v).2 c0 c1 (qe.set i z):=by
  intro sm hk a b d e;refine h.set hil hk (λ c a b=>sm.change a b) (λ j raw2 y2 _ _ _ c a b=>sm.change a b) (λ j raw2 x2 hj hx2=>?_) (λ y' hy'=>?_) (λ x' hx'=>absurd hx' (hzw x')) (λ hg=>?_) hkey
  ·have w:=o.w j raw2 x2 hx2;exact (h.wp j raw2 x2 hx2).same w.bc w.ql (λ a=>(w.wr a).1) sm hk
  ·obtain ⟨e1,e2⟩:=hzr y' hy';subst e1;rw [e2];refine a (λ h3=>?_);rcases hz with ⟨_,q,_⟩|⟨q,_⟩
   ·exact q (b h3)
   ·rw [q] at hy';cases hy'
  ·rcases hz with ⟨q,_⟩|⟨_,q,e3,e4,e5,e6,e7⟩
   ·rw [q] at hg;cases hg
   ·have hp3:y.part=3:=by
     by_cases q3:y.part=3
     ·exact q3
     ·exact absurd q (d q3)
    have hn3:=hs.n3 (by omega);obtain ⟨ec,em⟩:=e hp3;have hst:=hR.st i raw y hi hn3;have hcl:=hR.cl i raw y hi (by omega);have hrn:y.read=O:=by
     cases hr:y.read with
     |none=>rfl
     |some r=>exact absurd (hs.rd r hr).1 (by omega)
    refine ⟨λ e2=>absurd e2 e5,λ _=>⟨y.m,y.qh.st.toNat,by omega,?_,?_,?_,hs.qq hp3,hs.mt⟩⟩
    ·rw [e6,ec,Ff (by omega) (by omega)];omega
    ·rw [e3,e4];exact rh.b hn3 hrn
    ·rw [em] at e7;exact e7
 rcases (show y.part=1\/y.part=2\/y.part=3 by omega) with hp|hp|hp
 ·rcases Kz (v:=v) o.k o.len hs hp with ⟨hn,e,ews⟩|⟨hn,e,em⟩|⟨hn,e,ews⟩
  ·refine main (Qc ews) (by unfold Zh.wd;rw [ews]) (λ _=>?_) (λ a=>by omega) (λ _=>by rw [e];simp) (λ a=>by omega);rw [e];exact ⟨λ a=>by simp at a,λ _=>rh.a (by omega),λ a=>by simp at a,λ a=>by simp at a⟩
  ·have hlt:=Ve o.k o.len (3+y.thread) (by omega) (by omega);have w:∀ n:Nat,n≠(3+y.thread).toNat->(y.step m.opened v).2.wd n=m.wd n:=λ n hne=>by
    rw [em];exact (Zh.zv (by omega) hlt _ n).trans (Q9 (λ e=>hne e.symm))
   refine main (Qu b0 (λ n hn=>w n (by omega))) (w 2 (by omega)) (λ _=>?_) (λ a=>by omega) (λ _=>by rw [e];simp) (λ a=>by omega);rw [e];exact ⟨λ a=>by simp at a,λ _=>rh.a (by omega),λ a=>by simp at a,λ a=>by simp at a⟩
  ·refine main (Qc ews) (by unfold Zh.wd;rw [ews]) (λ _=>?_) (λ a=>by omega) (λ _=>by rw [e];simp) (λ a=>by omega);have hrn:y.read=O:=by
    cases hr:y.read with
    |none=>rfl
    |some r=>exact absurd (hs.rd r hr).1 (by omega)
   rw [e];refine ⟨λ _ c a b=>W5 (h.now c a b) ews,λ a=>absurd J a,λ _ _=>?_,λ _ r hr=>?_⟩
   ·show Vz (H (m.wd 2).toNat) _ y.m;rw [rh.a (by omega)];exact Vz.nil
   ·have hr:y.read=I r:=hr;rw [hrn] at hr;cases hr
 ·have hn3:=hs.n3 (by omega);obtain ⟨ews,q⟩:=Bv o.k o.len hs hp v;have hrd:=hR.rd i raw y hi hn3;have hG:=h.rd i raw y hi hn3;have pt:∀ (y2:Z8) (r2:Yu),(y2.zl r2 m.opened).1.part=y2.part/\(y2.zl r2 m.opened).1.qh=y2.qh:=by
   intro y2 r2;unfold Z8.zl;simp only;split <;> exact ⟨J,J⟩
  have main2:(y.step m.opened v).1.qh=y.qh/\RdH H (F raw.th raw.no) (y.step m.opened v).1/\(y.step m.opened v).1.part≠4:=by
   obtain ⟨g,G,R,qV⟩:=hrd;rcases q with ⟨r,hr,e⟩|⟨hr,h1,e,ok⟩|⟨hr,h4,e⟩|⟨hr,h0,e⟩
   ·have ok:=(hs.rd r hr).2.2;have hI:=qV r hr;rw [(G r.c ok.lo ok.hi).uniq (hG r.c ok.lo ok.hi)] at hI;rw [e];exact ⟨(pt y r).2,RdH.zl o.k o.len ok hn3 hG hI (rh.c hn3 r hr),by rw [(pt y r).1];omega⟩
   ·rw [e];refine ⟨(pt _ _).2,RdH.zl o.k o.len ok hn3 hG (.inl J) ⟨y.m,v,rh.b hn3 hr,h1,J,J⟩,?_⟩;rw [(pt _ _).1];show y.part≠4;omega
   ·rw [e];refine ⟨J,⟨λ a=>absurd hn3 a,λ _ _=>?_,λ _ r hr2=>?_⟩,by simp⟩
    ·exact Vz.step v (rh.b hn3 hr) (by omega)
    ·have hr2:y.read=I r:=hr2;rw [hr] at hr2;cases hr2
   ·rw [e];refine ⟨J,⟨λ a=>absurd hn3 a,λ _ _=>?_,λ _ r hr2=>?_⟩,by show y.part≠4;omega⟩
    ·exact Vz.step v (rh.b hn3 hr) (by omega)
    ·have hr2:y.read=I r:=hr2;rw [hr] at hr2;cases hr2
  obtain ⟨m1,m2,m3⟩:=main2;refine main (Qc ews) (by unfold Zh.wd;rw [ews]) (λ _=>⟨λ _ c a b=>?_,m2⟩) (λ a=>by omega) (λ _=>m3) (λ a=>by omega);rw [m1];exact W5 (hG c a b) ews
 ·have e:=Nq (v:=v) (s:=m) o.k hs hp;have hlt:=Ve o.k o.len (3+y.thread) (by omega) (by omega);have w:∀ n:Nat,n≠(3+y.thread).toNat->(y.step m.opened v).2.wd n=m.wd n:=λ n hne=>by
   rw [e];exact (Zh.zv (by omega) hlt _ n).trans (Q9 (λ e=>hne e.symm))
  exact main (Qu b0 (λ n hn=>w n (by omega))) (w 2 (by omega)) (λ a=>absurd hp a) (λ _=>by rw [e]) (λ a=>absurd hp a) (λ _=>by rw [e];exact ⟨J,J⟩)
end
section
variable {H H':Nat->Int->Nat} {G:Int->Nat} {F:Int->Int->Zk} {m m':Zh} {c0 c1 c st:Int} {qe:List Vb} {i v K K' p:Nat} {z:Vb} {x x':Zv} {y y':Z8} {raw:Zu} {r:Yu} {m0 M:Zk} {u u':Nat}
theorem WrH.ran (h:WrH H K m0 x) (hs:Jv c0 c1 x) (hp:x.part=4) (G:∀ c,0<=c->c < c0->m.zf c1 c=H K c) {r:Zv×Zh} (q:Ran x m v r):
  (r.1.part=4\/r.1.part=5\/r.1.part=8)/\WrH H K m0 r.1:=by
 have ms:=Qw v hs.wt;have hk1:=hs.k1;have S:=h.b (by omega) (by omega);cases q with
 |quiet hk e=>
  subst e;refine ⟨.inl hp,λ a=>?_,λ _ _=>?_,λ a=>?_⟩
  ·have a:x.part<=3:=a;omega
  ·exact Vz.step v S (by omega)
  ·have a:x.part=8:=a;omega
 |read hk e=>
  subst e;obtain ⟨k1,k2,⟨k3,k4⟩,_⟩:=ms.k1 hk;refine ⟨.inl hp,λ a=>?_,λ _ _=>?_,λ a=>?_⟩
  ·have a:x.part<=3:=a;omega
  ·show Vz (H K) m0 ((x.m.step v).1.xl (Zq (m.cw x.c1 (x.m.step v).2.cell 1).toNat));have e:Zq (m.cw x.c1 (x.m.step v).2.cell 1).toNat=H K (x.m.step v).2.cell:=by
    rw [hk1];exact G _ k3 (by rw [<-hs.mc];exact k4)
   rw [e];exact Vz.read v S hk
  ·have a:x.part=8:=a;omega
 |write hk hf e=>
  subst e;refine ⟨.inl hp,λ a=>?_,λ _ _=>?_,λ a=>?_⟩
  ·have a:x.part<=3:=a;omega
  ·exact Vz.step v S (by omega)
  ·have a:x.part=8:=a;omega
 |wu hk hh e=>
  subst e;refine ⟨.inr (.inl J),λ a=>?_,λ _ _=>?_,λ a=>?_⟩
  ·have a:(5:Int)<=3:=a;omega
  ·exact Vz.step v S (by omega)
  ·have a:(5:Int)=8:=a;omega
 |stop hk hh e=>
  subst e;refine ⟨.inr (.inr J),λ a=>?_,λ _ b=>?_,λ _=>?_⟩
  ·have a:(8:Int)<=3:=a;omega
  ·have b:(8:Int)<=7:=b;omega
  ·exact ⟨K,Nat.le_refl _,Vz.step v S (by omega),.inr ⟨hs.num (by omega),hh⟩⟩
theorem Jl.put (h:Jl m c0 c1 x) (o:Pe c0 c1 m qe) (hi:qe[i]? =I ⟨raw,I (.wr x)⟩) (hp:x.part=6) (v:Nat) (hk:(x.step m.opened v).2.wd 2=m.wd 2):Jl (x.step m.opened v).2 c0 c1 (x.step m.opened v).1:=by
 have hs:=o.w i raw x hi;obtain ⟨hlt,-⟩:=hs.wr hp;obtain ⟨d0,d1⟩:=hs.cell hp;obtain ⟨n,n0,n3,en,em,q⟩:=Ku (v:=v) o.k o.len hs hp;obtain ⟨p1,p2,p3,p4⟩:=Mz o.k o.len (d:=Xb x) (n:=n) d0 d1 n0 n3 (Bi x n);rw [<-em] at p1 p2 p3 p4;have ec:=Os hs hp;have hwl:=hs.ql;have hlt':x.written < x.m.buf.order.length:=by omega
 have rng:∀ j,j < x.m.buf.order.length->0<=x.m.buf.order.getD j 0:=λ j hj=>(hs.bc _ (J0 hj)).1;have ne:∀ j,j < x.m.buf.order.length->j≠x.written->x.m.buf.order.getD j 0≠Xb x:=by
  intro j hj hne e;rw [ec] at e;rw [G_,G_,List.getElem?_eq_getElem hj,List.getElem?_eq_getElem hlt'] at e;simp only [Option.getD_some] at e;exact hne ((List.getElem_inj hs.buf.nd).1 e)
 have A:∀ j,j < x.written->(x.step m.opened v).2.zf c1 (x.m.buf.order.getD j 0)=Zq (x.m.buf.val (x.m.buf.order.getD j 0)):=by
  intro j hj;rw [(p1 _ (rng j (by omega)) (ne j (by omega) (by omega))).2.1];exact h.a hp j hj
 have B:n=2->(x.step m.opened v).2.zf c1 (x.m.buf.order.getD x.written 0)=Zq (x.m.buf.val (x.m.buf.order.getD x.written 0)):=by
  intro hn;have C:=W9 (m:=m) o.k o.len (c:=Xb x) (d:=Xb x) (j:=1) (w:=Yk n) d0 d1 (by unfold Yk;split <;> (try split) <;> omega) (by unfold Yk;split <;> (try split) <;> omega) d0 (by omega) (by omega) (Bi x n);rw [<-em,P9 ⟨rfl,by unfold Yk;rw [Q9 (by omega),Q9 (by omega)]⟩] at C;have ev:(x.m.buf.all.getD x.written (0,0)).2=x.m.buf.val (x.m.buf.order.getD x.written 0):=by
   unfold Xc.all;simp [G_,hlt']
  rw [<-ec];show Zq ((x.step m.opened v).2.cw c1 (Xb x) 1).toNat=_;rw [C];unfold Bi;rw [Q9 (by omega),Q9 (by omega),ev,ec];show Zq (Zq _)=_;rw [U4]
 have D:∀ c,0<=c->c < c0->c∉x.m.buf.order->(x.step m.opened v).2.qs c1 c<=(x.step m.opened v).2.wd 2:=by
  intro c a b hc;rw [hk,(p1 c a (λ e=>hc (by rw [e,ec];exact J0 hlt'))).1];exact h.c (.inl hp) c a b hc
 rcases q with ⟨_,e⟩|⟨hn,_,e⟩|⟨hn,hl,e⟩
 ·rw [e];exact ⟨λ _ j hj=>A j hj,λ a=>by have a:x.part=7:=a;omega,λ _=>D⟩
 ·rw [e];refine ⟨λ _ j hj=>?_,λ a=>by have a:x.part=7:=a;omega,λ _=>D⟩;have hj:j < x.written+1:=hj
  by_cases ej:j=x.written
  ·subst ej;exact B hn
  ·exact A j (by omega)
 ·rw [e];refine ⟨λ a=>by have a:(7:Int)=6:=a;omega,λ _ j hj=>?_,λ _=>D⟩;have hj:j < x.m.buf.order.length:=hj
  by_cases ej:j=x.written
  ·subst ej;exact B hn
  ·exact A j (by omega)
end
section
variable {H H':Nat->Int->Nat} {G:Int->Nat} {F:Int->Int->Zk} {m m':Zh} {c0 c1 c st:Int} {qe:List Vb} {i v K K' p:Nat} {z:Vb} {x x':Zv} {y y':Z8} {raw:Zu} {r:Yu} {m0 M:Zk} {u u':Nat}
theorem Ua.kh (h:Ua H G F m c0 c1 qe) (hR:Vn m c0 c1 qe) (o:Pe c0 c1 m qe) (hi:qe[i]? =I ⟨raw,I (.wr x)⟩) (v:Nat)
  (hz:(z.g=I (.wr (x.step m.opened v).1)/\(x.step m.opened v).1.part≠9/\z.raw=raw)\/
   (z.g=O/\(x.step m.opened v).1.part=9/\z.raw.th=raw.th/\z.raw.no=raw.no/\z.raw.tag=2/\z.raw.number=(x.step m.opened v).1.number/\Oj z.raw (x.step m.opened v).1.m)):∃ H',Ua H' G F (x.step m.opened v).2 c0 c1 (qe.set i z):=by
 have hs:=o.w i raw x hi;have b0:=o.k.b0;have p1:=hs.p1;have p8:=hs.p8;have hsml:=o.small;have hil:=(List.getElem?_eq_some_iff.1 hi).1;have wh:=h.wr i raw x hi;have wp:=h.wp i raw x hi;have lo:=λ n a b=>Ve o.k o.len n a b;have hzr:∀ x',z.g=I (.wr x')->x'=(x.step m.opened v).1/\z.raw=raw:=by
  intro y' e;rcases hz with ⟨e2,_,e3⟩|⟨e2,_⟩
  ·rw [e2] at e;simp at e;exact ⟨e.symm,e3⟩
  ·rw [e2] at e;cases e
 have hzy:∀ y,z.g≠I (.rd y):=by
  intro x e;rcases hz with ⟨e2,_⟩|⟨e2,_⟩
  ·rw [e2] at e;cases e
  ·rw [e2] at e;cases e
 have hkey:∀ z0,qe[i]? =I z0->z0.raw.th=z.raw.th/\z0.raw.no=z.raw.no:=by
  intro z0 e;rw [hi] at e;obtain rfl:=Zo_ e;rcases hz with ⟨_,_,e3⟩|⟨_,_,e3,e4,_⟩
  ·rw [e3];exact ⟨J,J⟩
  ·exact ⟨e3.symm,e4.symm⟩
 have main:V1 m (x.step m.opened v).2 c0 c1->(x.step m.opened v).2.wd 2=m.wd 2->(x.step m.opened v).1.part≠9->WrH H (m.wd 2).toNat (F raw.th raw.no) (x.step m.opened v).1->Jl (x.step m.opened v).2 c0 c1 (x.step m.opened v).1->∃ H',Ua H' G F (x.step m.opened v).2 c0 c1 (qe.set i z):=by
  intro sm hk h9 a b;refine ⟨H,h.set hil hk (λ c a b=>sm.change a b) (λ j raw2 y2 _ _ _ c a b=>sm.change a b) (λ j raw2 x2 hj hx2=>?_) (λ y' hy'=>absurd hy' (hzy y')) (λ x' hx'=>?_) (λ hg=>?_) hkey⟩
  ·have w:=o.w j raw2 x2 hx2;exact (h.wp j raw2 x2 hx2).same w.bc w.ql (λ a=>(w.wr a).1) sm hk
  ·obtain ⟨e1,e2⟩:=hzr x' hx';rw [e1,e2];exact ⟨a,b⟩
  ·rcases hz with ⟨q,_⟩|⟨_,q,_⟩
   ·rw [q] at hg;cases hg
   ·exact absurd q h9
 rcases (show x.part=1\/x.part=2\/x.part=3\/x.part=4\/x.part=5\/x.part=6\/x.part=7\/x.part=8 by omega) with hp|hp|hp|hp|hp|hp|hp|hp
 ·have e:=Nf (v:=v) o.k o.len hp;have w:∀ n:Nat,n≠0->(x.step m.opened v).2.wd n=m.wd n:=λ n hn=>by
   rw [e];show (m.opened.add 0 1).wd n=_;rw [Zh.ke (by omega) (lo 0 (by omega) (by omega)),Q9 (by omega)]
  refine main (Qu b0 (λ n hn=>w n (by omega))) (w 2 (by omega)) (by rw [e];show (2:Int)≠9;omega) ?_ ?_
  ·rw [e];exact ⟨λ _=>wh.a (by omega),λ a=>by have a:(4:Int)<=2:=a;omega,λ a=>by have a:(2:Int)=8:=a;omega⟩
  ·exact Jl.low (by rw [e];show (2:Int)≠6;omega) (by rw [e];show (2:Int)≠7;omega)
 ·have e:=Nd (v:=v) o.k o.len hp;have ews:(x.step m.opened v).2.ws=m.ws:=by rw [e];exact Zh.zp _ _
  have ep:(x.step m.opened v).1.part<=3:=by rw [e];show (if m.wd 1=x.qc then (3:Int) else 2)<=3;split <;> omega
  refine main (Qc ews) (by unfold Zh.wd;rw [ews]) (by omega) ⟨λ _=>?_,λ a=>by omega,λ a=>by omega⟩ (Jl.low (by omega) (by omega));rw [e];exact wh.a (by omega)
 ·have e:=Nc (v:=v) o.k o.len hp;have ews:(x.step m.opened v).2.ws=m.ws:=by rw [e];exact Zh.zp _ _
  refine main (Qc ews) (by unfold Zh.wd;rw [ews]) (by rw [e];show (4:Int)≠9;omega) ?_ (Jl.low (by rw [e];show (4:Int)≠6;omega) (by rw [e];show (4:Int)≠7;omega));rw [e];refine ⟨λ a=>by have a:(4:Int)<=3:=a;omega,λ _ _=>?_,λ a=>by have a:(4:Int)=8:=a;omega⟩;show Vz (H (m.wd 2).toNat) _ x.m;rw [wh.a (by omega)];exact Vz.nil
 ·have G:∀ c,0<=c->c < c0->m.zf c1 c=H (m.wd 2).toNat c:=by
   intro c a b;have l:=hR.uv o hi (by omega) (by omega) (by omega) c a b;rcases h.now c a b with q|q
   ·exact q.2
   ·omega
  have q:=wh.ran hs hp G (Kv o.k o.len hs hp v);have q2:=(hR.wr i raw x hi).ran hs hp (λ y hy=>by obtain ⟨j,raw2,hj⟩:=hy;exact (o.r j raw2 y hj).t0) (Kv o.k o.len hs hp v);have ews:=q2.2.1;refine main (Qc ews) (by unfold Zh.wd;rw [ews]) q2.2.2 q.2 (Jl.low (by have:=q.1;omega) (by have:=q.1;omega))
 ·obtain ⟨nx,po,n0,n1,esc,ews,q⟩:=Bs (v:=v) o.k o.len hs hp;have sm:V1 m (x.step m.opened v).2 c0 c1:=Qc ews;have hk:(x.step m.opened v).2.wd 2=m.wd 2:=by unfold Zh.wd;rw [ews]
  have low:=hR.uv o hi (by omega) (by omega) (by omega);have S:=wh.b (by omega) (by omega);have kv:=hs.wn (by omega);rcases q with ⟨_,e⟩|⟨_,_,e⟩|⟨_,_,e⟩
  ·refine main sm hk (by rw [e];show x.part≠9;omega) ?_ (Jl.low (by rw [e];show x.part≠6;omega) (by rw [e];show x.part≠7;omega));rw [e];exact ⟨λ a=>by have a:x.part<=3:=a;omega,λ _ _=>S,λ a=>by have a:x.part=8:=a;omega⟩
  ·refine main sm hk (by rw [e];show x.part≠9;omega) ?_ (Jl.low (by rw [e];show x.part≠6;omega) (by rw [e];show x.part≠7;omega));rw [e];exact ⟨λ a=>by have a:x.part<=3:=a;omega,λ _ _=>S,λ a=>by have a:x.part=8:=a;omega⟩
  ·have ep:(x.step m.opened v).1.part=if 0 < x.ql.length then 6 else 7:=by rw [e]
   have ep2:(x.step m.opened v).1.part=6\/(x.step m.opened v).1.part=7:=by rw [ep];split <;> simp
   have em:(x.step m.opened v).1.m=x.m:=by rw [e]
   have ewn:(x.step m.opened v).1.written=x.written:=by rw [e]
   refine main sm hk (by omega) ⟨λ a=>by omega,λ _ _=>by rw [em];exact S,λ a=>by omega⟩ ⟨λ _ j hj=>by omega,λ a j hj=>?_,λ _ c a b _=>by rw [(sm c a b).1,hk];exact low c a b⟩;rw [ep] at a;rw [em,<-hs.ql] at hj;rw [P9 (by omega)] at a;omega
 ·obtain ⟨k2,w,ch,yo,pt,wv⟩:=(hR.wr i raw x hi).put o hi hp v;have S:=wh.b (by omega) (by omega);have em:(x.step m.opened v).1.m=x.m:=by
   obtain ⟨n,n0,n3,en,em,q⟩:=Ku (v:=v) o.k o.len hs hp;rcases q with ⟨_,e⟩|⟨_,_,e⟩|⟨_,_,e⟩ <;> rw [e]
  have P:=wp.put o hi hp v k2;have six:∀ (j:Nat) (raw2:Zu) (y2:Z8),qe[j]? =I ⟨raw2,I (.rd y2)⟩->y2.qh.n=3->y2.qh.st=m.wd 2:=λ j raw2 y2 hj hn=>(hR.wr i raw x hi).all hp y2 ⟨j,raw2,hj⟩ hn;refine ⟨H,h.set hil k2 ch (λ j raw2 y2 _ hj h3 c a b=>by rw [six j raw2 y2 hj h3];exact ch c a b) (λ j raw2 x2 hj hx2=>?_) (λ y' hy'=>absurd hy' (hzy y')) (λ x' hx'=>?_) (λ hg=>?_) hkey⟩
  ·have hlt:¬ 3<=x2.part:=λ h3=>hj (o.one j i _ _ _ _ hx2 hi h3 (by omega));exact Jl.low (by omega) (by omega)
  ·obtain ⟨e1,e2⟩:=hzr x' hx';rw [e1,e2];exact ⟨⟨λ a=>by omega,λ _ _=>by rw [em];exact S,λ a=>by omega⟩,P⟩
  ·rcases hz with ⟨q,_⟩|⟨_,q,_⟩
   ·rw [q] at hg;cases hg
   ·omega
 ·
  have e:=Nb (s:=m) (v:=v) hp;have hst:=o.qg i raw x hi (by omega) (by omega);have eu:u64 (x.qg+1)=m.wd 2+1:=by rw [hst];exact J8 (by omega) (by omega)
  have ew:wrap64 (u64 (x.qg+1))=m.wd 2+1:=by rw [eu];exact Ff (by omega) (by omega)
  have w:∀ n:Nat,(x.step m.opened v).2.wd n=if 2=n then m.wd 2+1 else m.wd n:=λ n=>by
   rw [e];show (m.opened.store 2 (u64 (x.qg+1))).wd n=_;rw [eu];exact Zh.zv (by omega) (lo 2 (by omega) (by omega)) _ n
  have k2:(x.step m.opened v).2.wd 2=m.wd 2+1:=by rw [w,P9 rfl]
  have sm:V1 m (x.step m.opened v).2 c0 c1:=Qu b0 (λ n hn=>by rw [w,Q9 (by omega)]);have S:=wh.b (by omega) (by omega);obtain ⟨eg,er⟩:z.g=I (.wr (x.step m.opened v).1)/\z.raw=raw:=by
   rcases hz with ⟨q,_,q2⟩|⟨_,q,_⟩
   ·exact ⟨q,q2⟩
   ·rw [e] at q;have q:(8:Int)=9:=q;omega
  obtain ⟨K,hK⟩:∃ K,K=(m.wd 2).toNat:=⟨_,J⟩;have hK1:(m.wd 2+1).toNat=K+1:=by omega
  have hKm:m.wd 2=(K:Int):=by omega
  have ext:∀ k,k<=K->(λ k=>if k=K+1 then Gc (H K) x.m.buf else H k) k=H k:=λ k hk=>Q9 (by omega);have top:(λ k=>if k=K+1 then Gc (H K) x.m.buf else H k) (K+1)=Gc (H K) x.m.buf:=P9 J;refine ⟨λ k=>if k=K+1 then Gc (H K) x.m.buf else H k,?_⟩;generalize (λ k=>if k=K+1 then Gc (H K) x.m.buf else H k)=H1 at *
  have T:=Kw hil z;refine ⟨(ext 0 (by omega)).trans h.beg,λ c a b=>?_,λ j raw2 y2 hj h3=>?_,λ j raw2 y2 hj=>?_,λ j raw2 x2 hj=>?_,λ j raw2 x2 hj=>?_,λ j raw2 hj=>?_,λ k hk2=>?_⟩
  ·rw [k2,hK1,top];have hv:=hR.yo c a b;refine .inl ⟨by rw [(sm c a b).1];exact hv,?_⟩;rw [(sm c a b).2.1];unfold Gc
   by_cases hc:c∈x.m.buf.order
   ·rw [P9 ((hs.buf.kn c).2 hc)];obtain ⟨j,hj,ej⟩:=List.mem_iff_getElem.1 hc;have q:=wp.b hp j hj;rw [G_,List.getElem?_eq_getElem hj] at q;simp only [Option.getD_some,ej] at q;exact q
   ·rw [Q9 (λ q=>hc ((hs.buf.kn c).1 q))];have l:=wp.c (.inr hp) c a b hc;rcases h.now c a b with q|q
    ·rw [hK];exact q.2
    ·omega
  ·rw [T] at hj;split at hj
   ·have e:=Zo_ hj;exact absurd (by rw [e]) (hzy y2)
   ·intro c a b;have hst2:=hR.st j raw2 y2 hj h3;have hcl:=hR.cl j raw2 y2 hj (by omega);rw [ext _ (by omega)];exact (h.rd j raw2 y2 hj h3 c a b).change (sm.change a b)
  ·rw [T] at hj;split at hj
   ·have e:=Zo_ hj;exact absurd (by rw [e]) (hzy y2)
   ·refine (h.rm j raw2 y2 hj).ext (λ h3=>?_);have hst2:=hR.st j raw2 y2 hj h3;have hcl:=hR.cl j raw2 y2 hj (by omega);exact ext _ (by omega)
  ·rw [k2,hK1];rw [T] at hj;split at hj
   ·have e2:=Zo_ hj;subst e2;have eg:I (Qt.wr x2)=I (.wr (x.step m.opened v).1):=eg;have er:raw2=raw:=er;simp only [Option.some.injEq,Qt.wr.injEq] at eg;rw [er,eg,e];refine ⟨λ a=>by have a:(8:Int)<=3:=a;omega,λ _ a=>by have a:(8:Int)<=7:=a;omega,λ _=>⟨K,by omega,?_,.inl ⟨?_,Nat.le_refl _,hs.jq (by omega) (by omega),λ c=>?_⟩⟩⟩
    ·rw [ext K (Nat.le_refl _),hK];exact S
    ·show wrap64 (u64 (x.qg+1))=_;rw [ew,hKm]
    ·rw [top,ext K (Nat.le_refl _)]
   ·rename_i hne;have hlt:¬ 3<=x2.part:=λ h3=>hne (o.one i j _ _ _ _ hi hj (by omega) h3);exact ⟨(h.wr j raw2 x2 hj).a,λ a=>by omega,λ a=>by omega⟩
  ·rw [T] at hj;split at hj
   ·have e2:=Zo_ hj;subst e2;have eg:I (Qt.wr x2)=I (.wr (x.step m.opened v).1):=eg;simp only [Option.some.injEq,Qt.wr.injEq] at eg;rw [eg,e];exact Jl.low (by show (8:Int)≠6;omega) (by show (8:Int)≠7;omega)
   ·rename_i hne;have hlt:¬ 3<=x2.part:=λ h3=>hne (o.one i j _ _ _ _ hi hj (by omega) h3);exact Jl.low (by omega) (by omega)
  ·rw [k2,hK1];rw [T] at hj;split at hj
   ·have e2:=Zo_ hj;rw [e2] at eg;cases eg
   ·have q:=h.jl j raw2 hj;rw [<-hK] at q;exact q.ext ext (by omega)
  ·rw [k2,hK1] at hk2
   by_cases ek:k=K
   ·subst ek;refine ⟨i,z,x.m,by rw [T,P9 rfl],?_,hs.jq (by omega) (by omega),λ c=>?_⟩
    ·rw [er,ext k (Nat.le_refl _),hK];exact S
    ·rw [top,ext k (Nat.le_refl _)]
   ·obtain ⟨j,z0,M,q1,q2,q3,q4⟩:=h.pub k (by omega);have x1:=ext k (by omega);have x2:=ext (k+1) (by omega)
    by_cases e3:i=j
    ·subst e3;have q:=hkey z0 q1;exact ⟨i,z,M,by rw [T,P9 rfl],by rw [<-q.1,<-q.2,x1];exact q2,q3,by rw [x1,x2];exact q4⟩
    ·exact ⟨j,z0,M,by rw [T,Q9 e3];exact q1,by rw [x1];exact q2,q3,by rw [x1,x2];exact q4⟩
 ·have e:=Na (s:=m) (v:=v) hp;have w:∀ n:Nat,n≠1->(x.step m.opened v).2.wd n=m.wd n:=λ n hn=>by
   rw [e];exact Zh.xp _ (by omega)
  have sm:V1 m (x.step m.opened v).2 c0 c1:=Qu b0 (λ n hn=>w n (by omega));have hk:=w 2 (by omega);refine ⟨H,h.set hil hk (λ c a b=>sm.change a b) (λ j raw2 y2 _ _ _ c a b=>sm.change a b) (λ j raw2 x2 hj hx2=>?_) (λ y' hy'=>absurd hy' (hzy y')) (λ x' hx'=>?_) (λ hg=>?_) hkey⟩
  ·have w:=o.w j raw2 x2 hx2;exact (h.wp j raw2 x2 hx2).same w.bc w.ql (λ a=>(w.wr a).1) sm hk
  ·rcases hz with ⟨_,q,_⟩|⟨q,_⟩
   ·rw [e] at q;exact absurd J q
   ·rw [q] at hx';cases hx'
  ·rcases hz with ⟨q,_⟩|⟨_,_,e3,e4,e5,e6,e7⟩
   ·rw [q] at hg;cases hg
   ·have en:(x.step m.opened v).1.number=x.number:=by rw [e]
    have em:(x.step m.opened v).1.m=x.m:=by rw [e]
    refine ⟨λ _=>⟨x.m,?_,by rw [em] at e7;exact e7,hs.vj hp,hs.mt⟩,λ a=>absurd e5 a⟩;rw [e3,e4,e6,en];exact wh.c hp
end
section
variable {H H':Nat->Int->Nat} {G:Int->Nat} {F:Int->Int->Zk} {m m':Zh} {c0 c1 c2 c3 c st:Int} {qe:List Vb} {i v t K K' p:Nat} {z:Vb} {x x':Zv} {y y':Z8} {raw:Zu} {r:Yu} {m0 M:Zk} {s e0:Zn} {w w0:W} {ts:List Nat} {start:List Nat} {progs:List (Int×List Xg)} {cs:List (List (Int×List Nat))}
theorem Ua.push (h:Ua H G F m c0 c1 qe) (hz:(∃ x,z.g=I (.wr x)/\x.part=1/\x.m=F z.raw.th z.raw.no)\/(∃ y,z.g=I (.rd y)/\y.qh.n=0/\y.m=F z.raw.th z.raw.no)):Ua H G F m c0 c1 (qe++[z]):=by
 have T:∀ (j:Nat) (u:Vb),(qe++[z])[j]? =I u->qe[j]? =I u\/u=z:=by
  intro j u hj;rw [List.getElem?_append] at hj;split at hj
  ·exact .inl hj
  ·rw [List.getElem?_singleton] at hj;split at hj
   ·exact .inr (Zo_ hj).symm
   ·cases hj
 have zr:∀ y raw,(⟨raw,I (.rd y)⟩:Vb)=z->y.qh.n=0/\y.m=F raw.th raw.no:=by
  intro y raw e;subst e;rcases hz with ⟨x,e,_⟩|⟨y',e,hn⟩
  ·cases e
  ·simp at e;rw [e];exact hn
 have zw:∀ x raw,(⟨raw,I (.wr x)⟩:Vb)=z->x.part=1/\x.m=F raw.th raw.no:=by
  intro x raw e;subst e;rcases hz with ⟨x',e,hn⟩|⟨y',e,_⟩
  ·simp at e;rw [e];exact hn
  ·cases e
 refine ⟨h.beg,h.now,λ j raw y hj hn=>?_,λ j raw y hj=>?_,λ j raw x hj=>?_,λ j raw x hj=>?_,λ j raw hj=>?_,λ k hk=>?_⟩
 ·rcases T j _ hj with q|q
  ·exact h.rd j raw y q hn
  ·have:=zr y raw q;omega
 ·rcases T j _ hj with q|q
  ·exact h.rm j raw y q
  ·obtain ⟨a,b⟩:=zr y raw q;exact ⟨λ _=>b,λ q=>by omega,λ q=>by omega⟩
 ·rcases T j _ hj with q|q
  ·exact h.wr j raw x q
  ·obtain ⟨a,b⟩:=zw x raw q;exact ⟨λ _=>b,λ q=>by omega,λ q=>by omega⟩
 ·rcases T j _ hj with q|q
  ·exact h.wp j raw x q
  ·obtain ⟨a,b⟩:=zw x raw q;exact Jl.low (by omega) (by omega)
 ·rcases T j _ hj with q|q
  ·exact h.jl j raw q
  ·subst q;rcases hz with ⟨x,e,_⟩|⟨y,e,_⟩
   ·cases e
   ·cases e
 ·obtain ⟨j,z0,M,q1,q2⟩:=h.pub k hk;refine ⟨j,z0,M,?_,q2⟩;rw [List.getElem?_append_left (List.getElem?_eq_some_iff.1 q1).1];exact q1
def mOf (c0 c1 c2 c3:Int) (progs:List (Int×List Xg)) (calls:List (List (Int×List Nat))) (th no:Int):Zk:=
 Uw c0 c1 c2 c3 (progs.getD ((calls.getD th.toNat []).getD no.toNat (0,[])).1.toNat (0,[])).1 (progs.getD ((calls.getD th.toNat []).getD no.toNat (0,[])).1.toNat (0,[])).2 ((calls.getD th.toNat []).getD no.toNat (0,[])).2
def Zn.mF (s:Zn):Int->Int->Zk:=mOf s.c0 s.c1 s.c2 s.c3 s.progs (s.qi.map (·.calls))
theorem mF_new (ht:t < s.qi.length):(s.xb t).m=s.mF t (s.th t).begun:=by
 have e:((s.qi.map (·.calls)).getD ((t:Int)).toNat [])=(s.th t).calls:=by
  unfold Zn.th;simp [G_,ht]
 unfold Zn.mF mOf;rw [e];unfold Zn.xb;split <;> rfl
structure Zn.jt (s r:Zn):Prop where
 c0:r.c0=s.c0
 c1:r.c1=s.c1
 c2:r.c2=s.c2
 c3:r.c3=s.c3
 progs:r.progs=s.progs
 calls:r.qi.map (·.calls)=s.qi.map (·.calls)
theorem Zn.jt.mF {r:Zn} (h:s.jt r):r.mF=s.mF:=by
 unfold Zn.mF;rw [h.c0,h.c1,h.c2,h.c3,h.progs,h.calls]
theorem Bl (l:List Qy) (t:Nat) (x:Qy) (hx:x.calls=(l.getD t Bj).calls):(l.set t x).map (·.calls)=l.map (·.calls):=by
 apply List.ext_getElem?;intro j;simp only [List.getElem?_map,List.getElem?_set]
 by_cases e:t=j
 ·subst e
  by_cases hl:t < l.length
  ·simp only [hl,if_true,Option.map_some,hx];simp [G_,hl]
  ·simp [hl]
 ·simp [e]
theorem Np (s:Zn) (t:Nat):s.jt (s.ready t):=by
 unfold Zn.ready;split
 ·exact ⟨J,J,J,J,J,Bl _ _ _ J⟩
 ·exact ⟨J,J,J,J,J,J⟩
theorem N7 (s:Zn) (t i:Nat) (raw:Zu) (r:Qt×Zh):s.jt (s.zc t i raw r):=by
 unfold Zn.zc;split
 ·exact ⟨J,J,J,J,J,Bl _ _ _ J⟩
 ·exact ⟨J,J,J,J,J,J⟩
def Zn.HI (s:Zn) (G:Int->Nat) (F:Int->Int->Zk):Prop:=∃ H,Ua H G F s.mem s.c0 s.c1 s.qe
theorem Zn.HI.ready (h:s.HI G F) (hF:F=s.mF) (ht:t < s.qi.length):(s.ready t).HI G F:=by
 obtain ⟨H,h⟩:=h;refine ⟨H,?_⟩;unfold Zn.ready;split
 ·show Ua H G F s.mem s.c0 s.c1 (s.qe++[_]);refine Ua.push h ?_;have e:=mF_new (s:={s with steps:=s.steps+1}) ht;have e2:Zn.mF {s with steps:=s.steps+1}=F:=hF.symm;rw [e2] at e;show (∃ x,I (Zn.xb {s with steps:=s.steps+1} t)=I (.wr x)/\x.part=1/\x.m=F t (s.th t).begun)\/(∃ y,I (Zn.xb {s with steps:=s.steps+1} t)=I (.rd y)/\y.qh.n=0/\y.m=F t (s.th t).begun);revert e;unfold Zn.xb;split
  ·intro e;exact .inl ⟨_,J,J,e⟩
  ·intro e;exact .inr ⟨_,J,J,e⟩
 ·exact h
theorem Zn.HI.step (h:s.HI G F) (hF:F=s.mF) (hri:s.RI) (hs:Qa s) (k:Yi s) (ht:t < s.qi.length) (hn:s.steps+1 < 1000000000) (v:Nat):(s.step t v).HI G F/\F=(s.step t v).mF:=by
 unfold Zn.step;cases hf:(s.th t).fin with
 |true=>rw [P9 rfl];exact ⟨h,hF⟩
 |false=>
  rw [Q9 (by simp)];obtain ⟨hr,hl,i,hc⟩:=k.ready ht hf;have ht':t < (s.ready t).qi.length:=by rw [hl];exact ht
  obtain ⟨raw,g,hx,_⟩:=hr.cur t i ht' hc;rw [Ux hc hx];have hF2:F=(s.ready t).mF:=hF.trans (Np s t).mF.symm;have hh:=h.ready hF ht;have hri:=hri.ready t;have hsr:=hs.ready t hn;have o:=hsr.ui hr;generalize s.ready t=q at *
  refine ⟨?_,hF2.trans (N7 q t i raw _).mF.symm⟩;obtain ⟨H,hh⟩:=hh;unfold Zn.zc;obtain ⟨u,hu,_,_,gs⟩:=hr.tx i raw g hx;cases g with
  |wr x=>
   have gs:Jv q.c0 q.c1 x:=gs;split
   ·rename_i ho;have ho:((x.step q.mem.opened v).1.part==9)=true:=ho;have h9:(x.step q.mem.opened v).1.part=9:=by simpa using ho
    show ∃ H,Ua H G F (x.step q.mem.opened v).2 q.c0 q.c1 _;refine Ua.kh hh hri o hx v (.inr ⟨J,h9,J,J,?_,J,J,J,J,?_,?_,?_⟩)
    ·show (x.step q.mem.opened v).1.tag=2;rcases Jv.step o.k o.len gs v with ⟨_,e⟩|e
     ·rw [e];exact gs.tag
     ·exact e.tag
    ·show (if (x.step q.mem.opened v).1.part=9 then _ else _)=_;rw [P9 h9]
    ·show (if (x.step q.mem.opened v).1.part=9 then _ else _)=_;rw [P9 h9]
    ·show (if (x.step q.mem.opened v).1.part=9 then _ else _)=_;rw [P9 h9]
   ·rename_i ho;have ho:¬ ((x.step q.mem.opened v).1.part==9)=true:=ho;show ∃ H,Ua H G F (x.step q.mem.opened v).2 q.c0 q.c1 _;exact Ua.kh hh hri o hx v (.inl ⟨J,by simpa using ho,rfl⟩)
  |rd y=>
   have gs:Ks q.c0 q.c1 u y:=gs;split
   ·rename_i ho;have ho:((y.step q.mem.opened v).1.part==4)=true:=ho;have h9:(y.step q.mem.opened v).1.part=4:=by simpa using ho
    show ∃ H,Ua H G F (y.step q.mem.opened v).2 q.c0 q.c1 _;refine ⟨H,Ua.kk hh hri o hx v (.inr ⟨J,h9,J,J,?_,?_,J,J,J,?_,?_,?_⟩)⟩
    ·show (y.step q.mem.opened v).1.tag≠2;rcases Ks.step o.k o.len gs v with ⟨_,e⟩|e
     ·rw [e];exact gs.tag
     ·exact e.tag
    ·show (if (y.step q.mem.opened v).1.part=1 then _ else _)=_;rw [Q9 (by omega)]
    ·show (if (y.step q.mem.opened v).1.part=4 then _ else _)=_;rw [P9 h9]
    ·show (if (y.step q.mem.opened v).1.part=4 then _ else _)=_;rw [P9 h9]
    ·show (if (y.step q.mem.opened v).1.part=4 then _ else _)=_;rw [P9 h9]
   ·rename_i ho;have ho:¬ ((y.step q.mem.opened v).1.part==4)=true:=ho;show ∃ H,Ua H G F (y.step q.mem.opened v).2 q.c0 q.c1 _;exact ⟨H,Ua.kk hh hri o hx v (.inl ⟨J,by simpa using ho,rfl⟩)⟩
theorem Qn.hi {e0 s:Zn} {ts:List Nat} (h:Qn e0 ts s) (k:Yi e0) (hs:Qa e0) (hi:e0.RI) (hh:e0.HI G F) (hF:F=e0.mF) (ht:∀ t∈ts,t < e0.qi.length) (hn:e0.steps+ts.length < 1000000000):s.HI G F/\F=s.mF:=by
 induction h with
 |nil s=>exact ⟨hh,hF⟩
 |@cons s r t l v h ih=>
  have q:=k.step (ht t (by simp)) v;have e:=(Kb s t v).1;simp only [List.length_cons] at hn;have q2:=hh.step hF hi hs k (ht t (by simp)) (by omega) v;exact ih q.1 (hs.step k (ht t (by simp)) (by omega) v) (hi.step hs k (ht t (by simp)) (by omega) v) q2.1 q2.2 (λ u hu=>by rw [q.2];exact ht u (by simp [hu])) (by omega)
end
end Go.Proofs.YtkhonmhnchdpkaaGreat
