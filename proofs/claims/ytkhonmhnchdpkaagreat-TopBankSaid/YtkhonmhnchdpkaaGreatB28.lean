/- A part of the proof; no condition. -/
import Derived.Test.YtkhonmhnchdpkaaGreatB27
set_option maxRecDepth 100000
set_option maxHeartbeats 40000000
namespace Go.Proofs.YtkhonmhnchdpkaaGreat
open Go.RowKit _root_.Go.Proofs.Tryz
open Go renaming World→W
open Value renaming int→U,float→Z,agg→A_
open IntKind renaming i64→Y
open FloatKind renaming f64→V
open Obj renaming cells→X
open Option renaming some→I,none→O
open Ending renaming returned→R_
open _root_.Go.Proofs.Tryz renaming prog→N
section
inductive Vz (g:Int->Nat) (m0:Zk):Zk->Prop
 |nil:Vz g m0 m0
 |step {m:Zk} (v:Nat) (h:Vz g m0 m) (hk:(m.step v).2.kind≠1):Vz g m0 (m.step v).1
 |read {m:Zk} (v:Nat) (h:Vz g m0 m) (hk:(m.step v).2.kind=1):Vz g m0 ((m.step v).1.xl (g (m.step v).2.cell))
def Waits (g:Int->Nat) (m0 m:Zk) (c:Int):Prop:=∃ m1 v,Vz g m0 m1/\(m1.step v).2.kind=1/\m=(m1.step v).1/\(m1.step v).2.cell=c
def Gc (g:Int->Nat) (b:Xc):Int->Nat:=λ c=>if b.known c=true then Zq (b.val c) else g c
def WEnd (H:Nat->Int->Nat) (K:Nat) (m0 M:Zk) (number:Int):Prop:=
 ∃ p:Nat,p<=K/\Vz (H p) m0 M/\((number=(p:Int)+1/\p+1<=K/\M.qq=1/\∀ c,H (p+1) c=Gc (H p) M.buf c)\/(number=0/\M.qq≠1))
structure RdH (H:Nat->Int->Nat) (m0:Zk) (y:Z8):Prop where
 a:y.qh.n≠3->y.m=m0
 b:y.qh.n=3->y.read=O->Vz (H y.qh.st.toNat) m0 y.m
 c:y.qh.n=3->∀ r,y.read=I r->Waits (H y.qh.st.toNat) m0 y.m r.c
structure WrH (H:Nat->Int->Nat) (K:Nat) (m0:Zk) (x:Zv):Prop where
 a:x.part<=3->x.m=m0
 b:4<=x.part->x.part<=7->Vz (H K) m0 x.m
 c:x.part=8->WEnd H K m0 x.m x.number
structure Jl (m:Zh) (c0 c1:Int) (x:Zv):Prop where
 a:x.part=6->∀ j,j < x.written->m.zf c1 (x.m.buf.order.getD j 0)=Zq (x.m.buf.val (x.m.buf.order.getD j 0))
 b:x.part=7->∀ j,j < x.m.buf.order.length->m.zf c1 (x.m.buf.order.getD j 0)=Zq (x.m.buf.val (x.m.buf.order.getD j 0))
 c:(x.part=6\/x.part=7)->∀ c,0<=c->c < c0->c∉x.m.buf.order->m.qs c1 c<=m.wd 2
def Oj (raw:Zu) (M:Zk):Prop:=raw.reads=M.reads/\raw.writes=M.buf.all/\raw.out=M.out/\raw.qq=M.qq/\raw.qn=M.qn/\raw.zd=M.zd
structure OldH (H:Nat->Int->Nat) (K:Nat) (m0:Zk) (raw:Zu):Prop where
 w:raw.tag=2->∃ M,WEnd H K m0 M raw.number/\Oj raw M/\M.qq≠0/\M.tag=2
 r:raw.tag≠2->∃ (M:Zk) (p:Nat),p<=K/\raw.mark=p/\Vz (H p) m0 M/\Oj raw M/\M.qq≠0/\M.tag≠2
structure Ua (H:Nat->Int->Nat) (G:Int->Nat) (F:Int->Int->Zk) (m:Zh) (c0 c1:Int) (qe:List Vb):Prop where
 beg:H 0=G
 now:∀ c,0<=c->c < c0->Vc m c1 c (m.wd 2) (H (m.wd 2).toNat c)
 rd:∀ (i:Nat) (raw:Zu) (y:Z8),qe[i]? =I ⟨raw,I (.rd y)⟩->y.qh.n=3->∀ c,0<=c->c < c0->Vc m c1 c y.qh.st (H y.qh.st.toNat c)
 rm:∀ (i:Nat) (raw:Zu) (y:Z8),qe[i]? =I ⟨raw,I (.rd y)⟩->RdH H (F raw.th raw.no) y
 wr:∀ (i:Nat) (raw:Zu) (x:Zv),qe[i]? =I ⟨raw,I (.wr x)⟩->WrH H (m.wd 2).toNat (F raw.th raw.no) x
 wp:∀ (i:Nat) (raw:Zu) (x:Zv),qe[i]? =I ⟨raw,I (.wr x)⟩->Jl m c0 c1 x
 jl:∀ (i:Nat) (raw:Zu),qe[i]? =I ⟨raw,O⟩->OldH H (m.wd 2).toNat (F raw.th raw.no) raw
 pub:∀ k,k < (m.wd 2).toNat->∃ (i:Nat) (z:Vb) (M:Zk),qe[i]? =I z/\Vz (H k) (F z.raw.th z.raw.no) M/\M.qq=1/\∀ c,H (k+1) c=Gc (H k) M.buf c
variable {H H':Nat->Int->Nat} {G:Int->Nat} {F:Int->Int->Zk} {m m':Zh} {c0 c1 c st:Int} {qe:List Vb} {i v K K' p:Nat} {z:Vb} {x x':Zv} {y y':Z8} {raw:Zu} {r:Yu} {m0 M:Zk} {u u':Nat}
theorem Vc.uniq (h:Vc m c1 c st u) (h':Vc m c1 c st u'):u=u':=by
 rcases h with ⟨a,b⟩|⟨a,b⟩ <;> rcases h' with ⟨a',b'⟩|⟨a',b'⟩
 ·rw [<-b,<-b']
 ·omega
 ·omega
 ·rw [<-b,<-b']
theorem Jl.low (h6:x.part≠6) (h7:x.part≠7):Jl m c0 c1 x:=⟨λ a=>absurd a h6,λ a=>absurd a h7,λ a=>by omega⟩
theorem Jl.same (h:Jl m c0 c1 x) (hc:∀ c∈x.m.buf.order,0<=c/\c < c0) (hwl:x.ql.length=x.m.buf.order.length) (hwn:x.part=6->x.written < x.ql.length) (sm:V1 m m' c0 c1) (hk:m'.wd 2=m.wd 2):Jl m' c0 c1 x:=by
 have hm:∀ j,j < x.m.buf.order.length->0<=x.m.buf.order.getD j 0/\x.m.buf.order.getD j 0 < c0:=λ j hj=>hc _ (J0 hj);refine ⟨λ a j hj=>?_,λ a j hj=>?_,λ a c b d e=>?_⟩
 ·have:=hwn a;have q:=hm j (by omega);rw [(sm _ q.1 q.2).2.1];exact h.a a j hj
 ·have q:=hm j hj;rw [(sm _ q.1 q.2).2.1];exact h.b a j hj
 ·rw [(sm c b d).1,hk];exact h.c a c b d e
section
theorem WEnd.ext (h:WEnd H K m0 M c) (hx:∀ k,k<=K->H' k=H k) (hk:K<=K'):WEnd H' K' m0 M c:=by
 obtain ⟨p,hp,hs,q⟩:=h;refine ⟨p,by omega,by rw [hx p hp];exact hs,?_⟩;rcases q with ⟨a,b,d,e⟩|q
 ·exact .inl ⟨a,by omega,d,by rw [hx p hp,hx (p+1) b];exact e⟩
 ·exact .inr q
theorem RdH.ext (h:RdH H m0 y) (hx:y.qh.n=3->H' y.qh.st.toNat=H y.qh.st.toNat):RdH H' m0 y:=
 ⟨h.a,λ a b=>by rw [hx a];exact h.b a b,λ a r b=>by rw [hx a];exact h.c a r b⟩
theorem OldH.ext (h:OldH H K m0 raw) (hx:∀ k,k<=K->H' k=H k) (hk:K<=K'):OldH H' K' m0 raw:=by
 refine ⟨λ a=>?_,λ a=>?_⟩
 ·obtain ⟨M,b,d,e⟩:=h.w a;exact ⟨M,b.ext hx hk,d,e⟩
 ·obtain ⟨M,p,b,d,e,f⟩:=h.r a;exact ⟨M,p,by omega,d,by rw [hx p b];exact e,f⟩
end
theorem Ua.set (h:Ua H G F m c0 c1 qe) (hi:i < qe.length) (hk:m'.wd 2=m.wd 2)
  (hn:∀ c,0<=c->c < c0->Jq m m' c1 c (m.wd 2))
  (hr:∀ (j:Nat) (raw2:Zu) (y2:Z8),j≠i->qe[j]? =I ⟨raw2,I (.rd y2)⟩->y2.qh.n=3->∀ c,0<=c->c < c0->Jq m m' c1 c y2.qh.st)
  (ho:∀ (j:Nat) (raw2:Zu) (x2:Zv),j≠i->qe[j]? =I ⟨raw2,I (.wr x2)⟩->Jl m' c0 c1 x2)
  (zr:∀ y',z.g=I (.rd y')->(y'.qh.n=3->∀ c,0<=c->c < c0->Vc m' c1 c y'.qh.st (H y'.qh.st.toNat c))/\RdH H (F z.raw.th z.raw.no) y')
  (zw:∀ x',z.g=I (.wr x')->WrH H (m.wd 2).toNat (F z.raw.th z.raw.no) x'/\Jl m' c0 c1 x')
  (zo:z.g=O->OldH H (m.wd 2).toNat (F z.raw.th z.raw.no) z.raw)
  (hw:∀ z0,qe[i]? =I z0->z0.raw.th=z.raw.th/\z0.raw.no=z.raw.no):Ua H G F m' c0 c1 (qe.set i z):=by
 have T:=Kw hi z;refine ⟨h.beg,λ c a b=>?_,λ j raw2 y2 hj h3=>?_,λ j raw2 y2 hj=>?_,λ j raw2 x2 hj=>?_,λ j raw2 x2 hj=>?_,λ j raw2 hj=>?_,λ k hk2=>?_⟩
 ·rw [hk];exact (h.now c a b).change (hn c a b)
 ·rw [T] at hj;split at hj
  ·have e:=Zo_ hj;exact (zr y2 (by rw [e])).1 h3
  ·rename_i hne;exact λ c a b=>(h.rd j raw2 y2 hj h3 c a b).change (hr j raw2 y2 (λ e=>hne e.symm) hj h3 c a b)
 ·rw [T] at hj;split at hj
  ·have e:=Zo_ hj;have:=(zr y2 (by rw [e])).2;rw [e] at this;exact this
  ·exact h.rm j raw2 y2 hj
 ·rw [hk];rw [T] at hj;split at hj
  ·have e:=Zo_ hj;have:=(zw x2 (by rw [e])).1;rw [e] at this;exact this
  ·exact h.wr j raw2 x2 hj
 ·rw [T] at hj;split at hj
  ·have e:=Zo_ hj;exact (zw x2 (by rw [e])).2
  ·rename_i hne;exact ho j raw2 x2 (λ e=>hne e.symm) hj
 ·rw [hk];rw [T] at hj;split at hj
  ·have e:=Zo_ hj;have:=zo (by rw [e]);rw [e] at this;exact this
  ·exact h.jl j raw2 hj
 ·rw [hk] at hk2;obtain ⟨j,z0,M,q1,q2,q3,q4⟩:=h.pub k hk2
  by_cases e:i=j
  ·subst e;have q:=hw z0 q1;exact ⟨i,z,M,by rw [T,P9 rfl],by rw [<-q.1,<-q.2];exact q2,q3,q4⟩
  ·exact ⟨j,z0,M,by rw [T,Q9 e];exact q1,q2,q3,q4⟩
end
section
def Jb:List Xg:=[⟨6,0,0⟩,⟨16,0,0⟩,⟨6,2,0⟩,⟨10,8,0⟩,⟨12,18,0⟩,⟨6,0,0⟩,⟨16,0,0⟩,⟨6,2,0⟩,⟨10,2,0⟩,⟨6,0,0⟩,⟨17,0,0⟩,⟨6,1,0⟩,⟨16,0,0⟩,⟨6,2,0⟩,⟨10,1,0⟩,⟨6,1,0⟩,⟨17,0,0⟩,⟨20,0,0⟩,⟨19,7,0⟩]
def Kr (n:Nat):List Xg:=⟨1,0,fl 0⟩ :: ((List.range n).flatMap (λ i=>[⟨1,0,fl i⟩,⟨16,0,0⟩,⟨10,1,0⟩])++[⟨18,0,0⟩,⟨20,0,0⟩])
def Q4 (G:Nat->Nat):Nat->Nat
 |0=>0
 |n+1=>Q4 G n+G n
theorem Cu (G:Nat->Nat) {a n:Nat} (w:Nat) (h:a < n):Q4 (Vu G a w) n+G a=Q4 G n+w:=by
 induction n with
 |zero=>omega
 |succ n ih=>
  simp only [Q4]
  by_cases e:a=n
  ·subst e;have:∀ k,k<=a->Q4 (Vu G a w) k=Q4 G k:=by
    intro k
    induction k with
    |zero=>intro _;rfl
    |succ k ihk=>
     intro hk;simp only [Q4];rw [ihk (by omega)];unfold Vu;rw [Q9 (by omega)]
   rw [this a (Nat.le_refl _)];unfold Vu;rw [P9 rfl];omega
  ·have:=ih (by omega);have e2:Vu G a w n=G n:=by unfold Vu;rw [Q9 (by omega)]
   rw [e2];omega
theorem Fi (G:Nat->Nat) {c n:Nat} (h:c < n):G c<=Q4 G n:=by
 induction n with
 |zero=>omega
 |succ n ih=>
  simp only [Q4]
  by_cases e:c=n
  ·subst e;omega
  ·have:=ih (by omega);omega
theorem Mt (G:Nat->Nat) {c n:Nat} (h:c<=n):Q4 G c<=Q4 G n:=by
 induction n with
 |zero=>
  have:c=0:=by omega
  subst this;exact Nat.le_refl _
 |succ n ih=>
  by_cases e:c=n+1
  ·subst e;exact Nat.le_refl _
  ·have:=ih (by omega);simp only [Q4];omega
inductive Mv (m0:Zk) (a b s x y:Nat):Zk->Prop
 |s0 rs o cl:Mv m0 a b s x y (ms m0 0 0 [] rs m0.buf o cl)
 |s1 rs o cl:Mv m0 a b s x y (ms m0 1 1 [fl a] rs m0.buf o cl)
 |s2 rs o cl:Mv m0 a b s x y (ms m0 2 2 [fl x] rs m0.buf o cl)
 |s3 rs o cl:Mv m0 a b s x y (ms m0 3 3 [fl x,fl s] rs m0.buf o cl)
 |s4 rs o cl:Mv m0 a b s x y (ms m0 4 4 [Cm (decide (x < s))] rs m0.buf o cl)
 |n5 rs o cl (h:x < s):Mv m0 a b s x y (ms m0 18 5 [] rs m0.buf o cl)
 |n6 rs o cl (h:x < s):Mv m0 a b s x y ((ms m0 19 6 [] rs m0.buf o cl).ends 2 7 0)
 |s5 rs o cl (h:s<=x):Mv m0 a b s x y (ms m0 5 5 [] rs m0.buf o cl)
 |s6 rs o cl (h:s<=x):Mv m0 a b s x y (ms m0 6 6 [fl a] rs m0.buf o cl)
 |s7 rs o cl (h:s<=x):Mv m0 a b s x y (ms m0 7 7 [fl x] rs m0.buf o cl)
 |s8 rs o cl (h:s<=x):Mv m0 a b s x y (ms m0 8 8 [fl x,fl s] rs m0.buf o cl)
 |s9 rs o cl (h:s<=x):Mv m0 a b s x y (ms m0 9 9 [fl (x - s)] rs m0.buf o cl)
 |s10 rs o cl (h:s<=x):Mv m0 a b s x y (ms m0 10 10 [fl (x - s),fl a] rs m0.buf o cl)
 |s11 rs o cl (h:s<=x):Mv m0 a b s x y (ms m0 11 11 [] rs (m0.buf.put a (fl (x - s))) o cl)
 |s12 rs o cl (h:s<=x):Mv m0 a b s x y (ms m0 12 12 [fl b] rs (m0.buf.put a (fl (x - s))) o cl)
 |s13 rs o cl (h:s<=x):Mv m0 a b s x y (ms m0 13 13 [fl y] rs (m0.buf.put a (fl (x - s))) o cl)
 |s14 rs o cl (h:s<=x):Mv m0 a b s x y (ms m0 14 14 [fl y,fl s] rs (m0.buf.put a (fl (x - s))) o cl)
 |s15 rs o cl (h:s<=x):Mv m0 a b s x y (ms m0 15 15 [fl (y+s)] rs (m0.buf.put a (fl (x - s))) o cl)
 |s16 rs o cl (h:s<=x):Mv m0 a b s x y (ms m0 16 16 [fl (y+s),fl b] rs (m0.buf.put a (fl (x - s))) o cl)
 |s17 rs o cl (h:s<=x):Mv m0 a b s x y (ms m0 17 17 [] rs ((m0.buf.put a (fl (x - s))).put b (fl (y+s))) o cl)
 |s18 rs o cl (h:s<=x):Mv m0 a b s x y ((ms m0 18 18 [] rs ((m0.buf.put a (fl (x - s))).put b (fl (y+s))) o cl).ends 1 0 0)
structure MvOk (n:Nat) (m0:Zk) (a b s:Nat):Prop where
 k:M0 m0
 code:m0.code=Jb
 tag:m0.tag=2
 c0:m0.c0=n
 buf:m0.buf=⟨[],λ _=>O,2⟩
 a0:m0.args 0=fl a
 a1:m0.args 1=fl b
 a2:m0.args 2=fl s
 xq:n<=10
 an:a < n
 bn:b < n
 sn:s < 150
variable {m0 m:Zk} {n a b s x y v:Nat} {g:Int->Nat}
def Onw (g:Int->Nat) (P:Zk->Prop) (v:Nat) (m:Zk):Prop:=((m.step v).2.kind≠1/\P (m.step v).1)\/((m.step v).2.kind=1/\P ((m.step v).1.xl (g (m.step v).2.cell)))
theorem Onw.go {P:Zk->Prop} {r:Zk×Xh} (e:m.step v=r) (hk:r.2.kind≠1) (h:P r.1):Onw g P v m:=by
 unfold Onw;rw [e];exact .inl ⟨hk,h⟩
theorem Onw.ask {P:Zk->Prop} {r:Zk×Xh} (e:m.step v=r) (hk:r.2.kind=1) (h:P (r.1.xl (g r.2.cell))):Onw g P v m:=by
 unfold Onw;rw [e];exact .inr ⟨hk,h⟩
theorem C6 {P:Zk->Prop} (h0:P m0) (h1:∀ m v,P m->Onw g P v m) (h:Vz g m0 m):P m:=by
 induction h with
 |nil=>exact h0
 |step v h hk ih=>
  rcases h1 _ v ih with q|q
  ·exact q.2
  ·exact absurd q.1 hk
 |read v h hk ih=>
  rcases h1 _ v ih with q|q
  ·exact absurd hk q.1
  ·exact q.2
theorem mv_next (o:MvOk n m0 a b s) (hx:x < 1024) (hy:y+s < 2048) (gx:g a=fl x) (gy:g b=fl (if b=a then x else y)) (yx:b=a->y=x - s) (h:Mv m0 a b s x y m) (v:Nat):Onw g (Mv m0 a b s x y) v m:=by
 obtain ⟨k,code,tag,c0,buf,a0,a1,a2,xq,an,bn,sn⟩:=o;have cl:m0.code.length=19:=by rw [code];rfl
 have zq:∀ j:Nat,m0.code.getD j Vw=Jb.getD j Vw:=λ j=>by rw [code]
 have ia:Vf (fl a) m0.c0=I (a:Int):=S7 (by omega) (by rw [c0];omega);have ib:Vf (fl b) m0.c0=I (b:Int):=S7 (by omega) (by rw [c0];omega);have k0:∀ c,m0.buf.known c=false:=λ c=>by rw [buf];rfl
 have k1:∀ c w,(m0.buf.put a w).known c=decide (c=(a:Int)):=λ c w=>by rw [Jy,k0];simp
 have fx:Zq (fl x)=fl x:=Q8 (by omega);have fs:Zq (fl s)=fl s:=Q8 (by omega);cases h with
 |s0 rs o cl'=>
  refine .go (Po k (by omega) (zq 0) (by rw [cl];omega) (by simp)) (show (0:Int)≠1 by decide) ?_;show Mv m0 a b s x y (ms m0 1 1 [m0.args 0] rs m0.buf o cl');rw [a0];exact .s1 _ _ _
 |s1 rs o cl'=>
  refine .ask (Tu (ns:=[]) k (by omega) (zq 1) (by rw [cl];omega) (by simp) ia (k0 _)) J ?_;show Mv m0 a b s x y (Zk.xl _ (g (a:Int)));rw [Db k,gx,fx];exact .s2 _ _ _
 |s2 rs o cl'=>
  refine .go (Po k (by omega) (zq 2) (by rw [cl];omega) (by simp)) (show (0:Int)≠1 by decide) ?_;show Mv m0 a b s x y (ms m0 3 3 [fl x,m0.args 2] rs m0.buf o cl');rw [a2];exact .s3 _ _ _
 |s3 rs o cl'=>
  refine .go (Wg (ns:=[]) k (by omega) (zq 3) (by rw [cl];omega) (by simp)) (show (0:Int)≠1 by decide) ?_;show Mv m0 a b s x y (ms m0 4 4 [J9 8 (Zq (fl x)) (Zq (fl s)) v] rs m0.buf o cl');rw [fx,fs,two_less (by omega) (by omega)];exact .s4 _ _ _
 |s4 rs o cl'=>
  refine .go (t_if (ns:=[]) k (by omega) (zq 4) (by rw [cl];omega) (by simp)) (show (0:Int)≠1 by decide) ?_;rw [true_yes]
  by_cases h:x < s
  ·rw [P9 (by simpa using h)];exact .n5 _ _ _ h
  ·rw [Q9 (by simpa using h)];exact .s5 _ _ _ (by omega)
 |n5 rs o cl' h=>exact .go (t_abort k (by omega) (zq 18) (by rw [cl];omega) (by simp)) (show (4:Int)≠1 by decide) (.n6 _ _ _ h)
 |n6 rs o cl' h=>exact .go (t_end (show m0.waits=false from k.wt) (by simp [Zk.ends])) (show (4:Int)≠1 by decide) (.n6 _ _ _ h)
 |s5 rs o cl' h=>
  refine .go (Po k (by omega) (zq 5) (by rw [cl];omega) (by simp)) (show (0:Int)≠1 by decide) ?_;show Mv m0 a b s x y (ms m0 6 6 [m0.args 0] rs m0.buf o cl');rw [a0];exact .s6 _ _ _ h
 |s6 rs o cl' h=>
  refine .ask (Tu (ns:=[]) k (by omega) (zq 6) (by rw [cl];omega) (by simp) ia (k0 _)) J ?_;show Mv m0 a b s x y (Zk.xl _ (g (a:Int)));rw [Db k,gx,fx];exact .s7 _ _ _ h
 |s7 rs o cl' h=>
  refine .go (Po k (by omega) (zq 7) (by rw [cl];omega) (by simp)) (show (0:Int)≠1 by decide) ?_;show Mv m0 a b s x y (ms m0 8 8 [fl x,m0.args 2] rs m0.buf o cl');rw [a2];exact .s8 _ _ _ h
 |s8 rs o cl' h=>
  refine .go (Wg (ns:=[]) k (by omega) (zq 8) (by rw [cl];omega) (by simp)) (show (0:Int)≠1 by decide) ?_;show Mv m0 a b s x y (ms m0 9 9 [J9 2 (Zq (fl x)) (Zq (fl s)) v] rs m0.buf o cl');rw [fx,fs,two_sub (by omega) h];exact .s9 _ _ _ h
 |s9 rs o cl' h=>
  refine .go (Po k (by omega) (zq 9) (by rw [cl];omega) (by simp)) (show (0:Int)≠1 by decide) ?_;show Mv m0 a b s x y (ms m0 10 10 [fl (x - s),m0.args 0] rs m0.buf o cl');rw [a0];exact .s10 _ _ _ h
 |s10 rs o cl' h=>
  refine .go (Wf (ns:=[]) k (by omega) (zq 10) (by rw [cl];omega) (by simp) tag ia (by rw [buf];simp)) (by simp) ?_;exact .s11 _ _ _ h
 |s11 rs o cl' h=>
  refine .go (Po k (by omega) (zq 11) (by rw [cl];omega) (by simp)) (show (0:Int)≠1 by decide) ?_;show Mv m0 a b s x y (ms m0 12 12 [m0.args 1] rs _ o cl');rw [a1];exact .s12 _ _ _ h
 |s12 rs o cl' h=>
  by_cases e:b=a
  ·have e2:(m0.buf.put (a:Int) (fl (x - s))).val (b:Int)=fl y:=by
    rw [Tz,P9 (by omega),Q8 (by omega),yx e]
   refine .go (t_own (ns:=[]) k (by omega) (zq 12) (by rw [cl];omega) (by simp) ib (by rw [k1];exact decide_eq_true (by omega))) (by simp) ?_;rw [e2];exact .s13 _ _ _ h
  ·refine .ask (Tu (ns:=[]) k (by omega) (zq 12) (by rw [cl];omega) (by simp) ib (by rw [k1];exact D9 (by omega))) J ?_;show Mv m0 a b s x y (Zk.xl _ (g (b:Int)));rw [Db k,gy,Q9 e,Q8 (by omega)];exact .s13 _ _ _ h
 |s13 rs o cl' h=>
  refine .go (Po k (by omega) (zq 13) (by rw [cl];omega) (by simp)) (show (0:Int)≠1 by decide) ?_;show Mv m0 a b s x y (ms m0 14 14 [fl y,m0.args 2] rs _ o cl');rw [a2];exact .s14 _ _ _ h
 |s14 rs o cl' h=>
  refine .go (Wg (ns:=[]) k (by omega) (zq 14) (by rw [cl];omega) (by simp)) (show (0:Int)≠1 by decide) ?_;show Mv m0 a b s x y (ms m0 15 15 [J9 1 (Zq (fl y)) (Zq (fl s)) v] rs _ o cl');rw [Q8 (by omega),fs,Wa (by omega)];exact .s15 _ _ _ h
 |s15 rs o cl' h=>
  refine .go (Po k (by omega) (zq 15) (by rw [cl];omega) (by simp)) (show (0:Int)≠1 by decide) ?_;show Mv m0 a b s x y (ms m0 16 16 [fl (y+s),m0.args 1] rs _ o cl');rw [a1];exact .s16 _ _ _ h
 |s16 rs o cl' h=>
  refine .go (Wf (ns:=[]) k (by omega) (zq 16) (by rw [cl];omega) (by simp) tag ib ?_) (by simp) ?_
  ·rw [Qh,k0,buf];simp [Xc.put]
  ·exact .s17 _ _ _ h
 |s17 rs o cl' h=>exact .go (t_halt k (by omega) (zq 17) (by rw [cl];omega) (by simp)) (show (4:Int)≠1 by decide) (.s18 _ _ _ h)
 |s18 rs o cl' h=>exact .go (t_end (show m0.waits=false from k.wt) (by simp [Zk.ends])) (show (4:Int)≠1 by decide) (.s18 _ _ _ h)
theorem mv_how (k:M0 m0) (h:Mv m0 a b s x y m) (hh:m.qq≠0):(m.qq=2/\m.qn=7/\m.zd=0)\/(m.qq=1/\m.qn=0/\m.zd=0/\s<=x/\m.buf=(m0.buf.put a (fl (x - s))).put b (fl (y+s))):=by
 cases h with
 |n6 rs o cl' h=>exact .inl ⟨J,J,J⟩
 |s18 rs o cl' h=>exact .inr ⟨J,J,J,h,J⟩
 |_=>exact absurd k.qq hh
end
section
def Gj (n:Nat):List (Int×List Xg):=[(2,Jb),(1,Kr n)]
inductive Rv (m0:Zk) (n:Nat) (G:Nat->Nat):Zk->Prop
 |z rs cl:Rv m0 n G (ms m0 0 0 [] rs m0.buf [] cl)
 |a (i:Nat) rs cl (h:i<=n):Rv m0 n G (ms m0 (1+3 * i:Nat) (1+3 * i:Nat) [fl (Q4 G i)] rs m0.buf [] cl)
 |b (i:Nat) rs cl (h:i < n):Rv m0 n G (ms m0 (2+3 * i:Nat) (2+3 * i:Nat) [fl (Q4 G i),fl i] rs m0.buf [] cl)
 |c (i:Nat) rs cl (h:i < n):Rv m0 n G (ms m0 (3+3 * i:Nat) (3+3 * i:Nat) [fl (Q4 G i),fl (G i)] rs m0.buf [] cl)
 |e rs cl:Rv m0 n G (ms m0 (2+3 * n:Nat) (2+3 * n:Nat) [] rs m0.buf [fl (Q4 G n)] cl)
 |f rs cl:Rv m0 n G ((ms m0 (3+3 * n:Nat) (3+3 * n:Nat) [] rs m0.buf [fl (Q4 G n)] cl).ends 1 0 0)
structure RvOk (n:Nat) (m0:Zk):Prop where
 k:M0 m0
 code:m0.code=Kr n
 c0:m0.c0=n
 buf:∀ c,m0.buf.known c=false
 xq:n<=10
theorem insE {i:Xg} {a b:Int} {c:Nat} (h1:i.op=a) (h2:i.n=b) (h3:i.x=c):i=⟨a,b,c⟩:=by
 obtain ⟨_,_,_⟩:=i;simp only at h1 h2 h3;rw [h1,h2,h3]
def U5 (n j:Nat) (a b:Int) (c:Nat):Bool:=((Kr n).getD j Vw).op==a&&((Kr n).getD j Vw).n==b&&((Kr n).getD j Vw).x==c
theorem sumAt_eq {n j:Nat} {a b:Int} {c:Nat} (h:U5 n j a b c=true):(Kr n).getD j Vw=⟨a,b,c⟩:=by
 unfold U5 at h;simp only [Bool.and_eq_true,beq_iff_eq] at h;exact insE h.1.1 h.1.2 h.2
theorem sum_all:(List.range 11).all (λ n=>U5 n 0 1 0 (fl 0)&&U5 n (1+3 * n) 18 0 0&&U5 n (2+3 * n) 20 0 0&&(Kr n).length==3+3 * n&&Xl 1 (Kr n)&&(List.range n).all (λ i=>U5 n (1+3 * i) 1 0 (fl i)&&U5 n (2+3 * i) 16 0 0&&U5 n (3+3 * i) 10 1 0))=true:=by decide+kernel
theorem Tv {n:Nat} (h:n<=10):U5 n 0 1 0 (fl 0)=true/\U5 n (1+3 * n) 18 0 0=true/\U5 n (2+3 * n) 20 0 0=true/\(Kr n).length=3+3 * n/\Xl 1 (Kr n)=true/\∀ i,i < n->U5 n (1+3 * i) 1 0 (fl i)=true/\U5 n (2+3 * i) 16 0 0=true/\U5 n (3+3 * i) 10 1 0=true:=by
 have q:=List.all_eq_true.1 sum_all n (List.mem_range.2 (by omega));simp only [Bool.and_eq_true,beq_iff_eq] at q;obtain ⟨⟨⟨⟨⟨q1,q2⟩,q3⟩,q4⟩,q5⟩,q6⟩:=q;refine ⟨q1,q2,q3,q4,q5,λ i hi=>?_⟩;have w:=List.all_eq_true.1 q6 i (List.mem_range.2 hi);simp only [Bool.and_eq_true] at w;exact ⟨w.1.1,w.1.2,w.2⟩
variable {m0 m:Zk} {n a b s x y v:Nat} {g:Int->Nat} {G:Nat->Nat}
theorem rv_next (o:RvOk n m0) (hG:Q4 G n < 2048) (gx:∀ i:Nat,i < n->g i=fl (G i)) (h:Rv m0 n G m) (v:Nat):Onw g (Rv m0 n G) v m:=by
 obtain ⟨k,code,c0,k0,xq⟩:=o;obtain ⟨f1,f2,f3,f4,_,f5⟩:=Tv xq;have cl:m0.code.length=3+3 * n:=by rw [code];exact f4
 have zq:∀ {j:Nat} {a b:Int} {c:Nat},U5 n j a b c=true->m0.code.getD j Vw=⟨a,b,c⟩:=λ h=>by rw [code];exact sumAt_eq h
 have up:∀ j:Nat,((j:Nat):Int)+1=((j+1:Nat):Int):=λ j=>by omega
 cases h with
 |z rs cl'=>
  refine .go (t_push k (by omega) (zq f1) (by rw [cl];omega) (by simp)) (show (0:Int)≠1 by decide) ?_;show Rv m0 n G (ms m0 ((1+3 * 0:Nat):Int) ((1+3 * 0:Nat):Int) [Zq (fl 0)] rs m0.buf [] cl');rw [Q8 (by omega)];exact .a 0 _ _ (by omega)
 |a i rs cl' h=>
  by_cases e:i=n
  ·subst e;refine .go (t_emit (ns:=[]) k (by omega) (zq f2) (by rw [cl];omega) (by simp)) (show (0:Int)≠1 by decide) ?_;simp only [up];have:=Rv.e (m0:=m0) (n:=i) (G:=G) rs cl'
   rwa [show 2+3 * i=1+3 * i+1 by omega] at this
  ·have hi:i < n:=by omega
   refine .go (t_push k (by omega) (zq (f5 i hi).1) (by rw [cl];omega) (by simp)) (show (0:Int)≠1 by decide) ?_;simp only [up];rw [Q8 (by omega)];have:=Rv.b (m0:=m0) (n:=n) (G:=G) i rs cl' hi
   rwa [show 2+3 * i=1+3 * i+1 by omega] at this
 |b i rs cl' h=>
  refine .ask (Tu (ns:=[fl (Q4 G i)]) k (by omega) (zq (f5 i h).2.1) (by rw [cl];omega) (by simp) (S7 (by omega) (by rw [c0];omega)) (k0 _)) J ?_;show Rv m0 n G (Zk.xl _ (g (i:Int)));have hle:=Fi G h;rw [Db k,gx i h,Q8 (by omega),up];have:=Rv.c (m0:=m0) (n:=n) (G:=G) i (rs++[((i:Int),fl (G i))]) i h
  rwa [show 3+3 * i=2+3 * i+1 by omega] at this
 |c i rs cl' h=>
  have hle:=Mt G (show i+1<=n from h);have e2:Q4 G (i+1)=Q4 G i+G i:=J;refine .go (Wg (ns:=[]) k (by omega) (zq (f5 i h).2.2) (by rw [cl];omega) (by simp)) (show (0:Int)≠1 by decide) ?_;show Rv m0 n G (ms m0 (((3+3 * i:Nat):Int)+1) (((3+3 * i:Nat):Int)+1) [J9 1 (Zq (fl (Q4 G i))) (Zq (fl (G i))) v] rs m0.buf [] cl');rw [Q8 (by omega),Q8 (by omega),Wa (by omega),up,<-e2];have:=Rv.a (m0:=m0) (n:=n) (G:=G) (i+1) rs cl' h
  rwa [show 1+3 * (i+1)=3+3 * i+1 by omega] at this
 |e rs cl'=>
  refine .go (t_halt k (by omega) (zq f3) (by rw [cl];omega) (by simp)) (show (4:Int)≠1 by decide) ?_;simp only [up];have:=Rv.f (m0:=m0) (n:=n) (G:=G) rs cl'
  rwa [show 3+3 * n=2+3 * n+1 by omega] at this
 |f rs cl'=>exact .go (t_end (show m0.waits=false from k.wt) (by simp [Zk.ends])) (show (4:Int)≠1 by decide) (.f _ _)
theorem rv_how (k:M0 m0) (h:Rv m0 n G m) (hh:m.qq≠0):m.qq=1/\m.qn=0/\m.zd=0/\m.out=[fl (Q4 G n)]/\m.buf=m0.buf:=by
 cases h with
 |f rs cl'=>exact ⟨J,J,J,J,J⟩
 |_=>exact absurd k.qq hh
def Bal (n:Nat) (h:Int->Nat):Prop:=∃ G:Nat->Nat,(∀ c:Nat,c < n->h c=fl (G c))/\Q4 G n=100 * n
inductive Rq (n:Nat) (m0:Zk):Prop
 |mv (a b s:Nat) (o:MvOk n m0 a b s) (p:m0.place=0/\m0.used=0/\m0.qd=[])
 |rd (o:RvOk n m0) (t:m0.tag≠2) (p:m0.place=0/\m0.used=0/\m0.qd=[]/\m0.out=[])
theorem Ws (p:m0.place=0/\m0.used=0/\m0.qd=[]):m0=ms m0 0 0 [] m0.reads m0.buf m0.out m0.cell:=by
 cases m0
 obtain ⟨p1,p2,p3⟩:=p;simp only at p1 p2 p3;subst p1 p2 p3;rfl
theorem Pa (o:Rq n m0) (h:Bal n g) (hs:Vz g m0 m) (hh:m.qq≠0):m.qn=(if m.qq=2 then 7 else 0)/\m.zd=0/\(m.qq=1\/(m.qq=2/\m0.tag=2))/\(m0.tag≠2->m.out=[fl (100 * n)])/\(m.qq=1->Bal n (Gc g m.buf)):=by
 obtain ⟨G,hG,hS⟩:=h;cases o with
 |rd o t p=>
  have xq:=o.xq;have q:=C6 (P:=Rv m0 n G) (by rw [Ws ⟨p.1,p.2.1,p.2.2.1⟩,p.2.2.2];exact .z _ _) (λ m v hm=>rv_next o (by omega) hG hm v) hs;obtain ⟨h1,h2,h3,h4,h5⟩:=rv_how o.k q hh;refine ⟨by rw [h1,h2];rfl,h3,.inl h1,λ _=>by rw [h4,hS],λ _=>⟨G,λ c hc=>?_,hS⟩⟩;unfold Gc;rw [h5,o.buf];exact hG c hc
 |mv a b s o p=>
  have xq:=o.xq;have an:=o.an;have bn:=o.bn;have sn:=o.sn;have l1:=Fi G an;have l2:=Fi G bn;have q:=C6 (P:=Mv m0 a b s (G a) (if b=a then G a - s else G b)) (by rw [Ws p];exact .s0 _ _ _)
   (λ m v hm=>mv_next o (by omega) (by split <;> omega) (hG a an) (by rw [hG b bn];split <;> simp [*]) (λ e=>by rw [P9 e]) hm v) hs
  rcases mv_how o.k q hh with ⟨h1,h2,h3⟩|⟨h1,h2,h3,h4,h5⟩
  ·exact ⟨by rw [h1,h2];rfl,h3,.inr ⟨h1,o.tag⟩,λ t=>absurd o.tag t,λ e=>by omega⟩
  ·refine ⟨by rw [h1,h2];rfl,h3,.inl h1,λ t=>absurd o.tag t,λ _=>?_⟩;have ey:(if b=a then G a - s else G b)=Vu G a (G a - s) b:=by unfold Vu;rfl
   rw [ey] at h5;have s1:=Cu G (G a - s) an;have s2:=Cu (Vu G a (G a - s)) (Vu G a (G a - s) b+s) bn;have l3:=Fi (Vu G a (G a - s)) bn;have k0:∀ c,m0.buf.known c=false:=λ c=>by rw [o.buf];rfl
   refine ⟨Vu (Vu G a (G a - s)) b (Vu G a (G a - s) b+s),λ c hc=>?_,by omega⟩;have f1:Zq (fl (Vu G a (G a - s) b+s))=fl (Vu G a (G a - s) b+s):=Q8 (by omega);have f2:Zq (fl (G a - s))=fl (G a - s):=Q8 (by omega);unfold Gc;rw [h5,Jy,Jy,k0,Tz,Tz]
   by_cases e1:c=b
   ·subst e1;rw [P9 (by simp),P9 rfl,f1,f1];congr 1
    unfold Vu;rw [P9 rfl]
   ·by_cases e2:c=a
    ·subst e2;rw [P9 (by simp),Q9 (by omega),P9 rfl,f2,f2];congr 1
     unfold Vu;rw [Q9 e1,P9 rfl]
    ·rw [Q9 (by simp;omega),hG c hc];congr 1
     unfold Vu;rw [Q9 e1,Q9 e2]
end
section
attribute [local go_sem] Zi
variable {w w':W} {n:Nat}
theorem push_c (n:Int) (w:W):Calls N 35 #[U Y n] w λ e w'=>e=R_ (A_ #[U Y 1,U Y 0,Z V (floatOfInt .f64 n)])/\Ze [] w w':=by
 have B:=Zc w (X #[U Y 1,U Y 0,Z V (floatOfInt .f64 n)] 106);have z0:=Za (i:=0) B J;have z1:=Za (i:=1) B J;have z2:=Za (i:=2) B J;clear B;go_enter func35,ntmps35;go_wp2_with fail;exact bodyPost_ret (v:=A_ #[U Y 1,U Y 0,Z V (floatOfInt .f64 n)]) (by simp [results,results35,go_sem,z0,z1,z2]) J ⟨J,(Zr_ _ w).alloc _⟩
theorem Ps (n:Int) (w:W):Calls N 36 #[U Y n] w λ e w'=>e=R_ (A_ #[U Y 6,U Y n,Z V 0])/\Ze [] w w':=by
 have B:=Zc w (X #[U Y 6,U Y n,Z V 0] 106);have z0:=Za (i:=0) B J;have z1:=Za (i:=1) B J;have z2:=Za (i:=2) B J;clear B;go_enter func36,ntmps36;go_wp2_with fail;exact bodyPost_ret (v:=A_ #[U Y 6,U Y n,Z V 0]) (by simp [results,results36,go_sem,z0,z1,z2]) J ⟨J,(Zr_ _ w).alloc _⟩
theorem Da (n:Int) (w:W):Calls N 37 #[U Y n] w λ e w'=>e=R_ (A_ #[U Y 10,U Y n,Z V 0])/\Ze [] w w':=by
 have B:=Zc w (X #[U Y 10,U Y n,Z V 0] 106);have z0:=Za (i:=0) B J;have z1:=Za (i:=1) B J;have z2:=Za (i:=2) B J;clear B;go_enter func37,ntmps37;go_wp2_with fail;exact bodyPost_ret (v:=A_ #[U Y 10,U Y n,Z V 0]) (by simp [results,results37,go_sem,z0,z1,z2]) J ⟨J,(Zr_ _ w).alloc _⟩
theorem not_neg {a:Nat} (h:a < 2048):(FloatKind.f64.format.order (fl a) 0==I .lt)=false:=by
 have:=T1 h (show 0 < 2048 by decide);rw [Fz] at this;rw [this];rcases Nat.eq_zero_or_pos a with e|e
 ·subst e;rfl
 ·rw [Nat.compare_eq_gt.2 e];rfl
theorem Wh {G:Nat->Nat} {v:Value} (h:w.ownsRow 0 51 1 v n (((List.range n).map (λ c=>fl (G c))).map (Z V))) (xq:n<=10) (hS:Q4 G n=100 * n):
  Calls N 18 #[v,U Y n] w λ e w'=>e=R_ (.bool true)/\Ze [] w w':=by
 obtain ⟨a1,c1,rfl⟩:=Zo h;have C1:=Zh_ (T0 h (by decide));have HN:=Zh_ xq;have HS:=Zh_ hS;have d9:decide ((n:Int)=(n:Int))=true:=decide_eq_true J;clear h xq hS;go_enter func18,ntmps18;go_wp2_with fail
 go_loopw [5,10] (λ s i wx=>∃ k:Nat,k<=n/\i=U Y k/\s=Z V (fl (Q4 G k))/\Ze [] w wx) (λ _ i _=>n - (intOf i).toNat)
 case atStart=>exact ⟨0,by omega,rfl,by show _=Z V (fl 0);rw [Fz],Zr_ _ _⟩
 case round=>
  obtain ⟨k,hk,rfl,rfl,m⟩:=hrel;have HM:=Zh_ m;have xq:=HN.out;have hS:=HS.out
  by_cases hlt:k < n
  ·have d4:decide ((k:Int) < (n:Int))=true:=decide_eq_true (by omega);obtain ⟨g1,rfl,l1,c1⟩:=C1.out k (by omega);rw [List.getElem?_map,List.getElem?_map,List.getElem?_range hlt] at c1;simp only [Option.map_some] at c1;replace c1:=Z5 m l1 (by simp) c1;have le1:=Fi G hlt;have le2:=Mt G (show k+1<=n from hlt);have le3:Q4 G (k+1)=Q4 G k+G k:=J;have q1:=not_neg (a:=G k) (by omega);have q2:=add_fl (a:=Q4 G k) (b:=G k) (by omega);rw [<-le3] at q2;have r2:=run_float_arith (P:=N) wr .add 51 .f64 (fl (Q4 G k)) (fl (G k)) _ q2;obtain ⟨z1,hz1⟩:∃ z,z=fl (Q4 G k):=⟨_,J⟩;obtain ⟨z2,hz2⟩:∃ z,z=fl (G k):=⟨_,J⟩;obtain ⟨z3,hz3⟩:∃ z,z=fl (Q4 G (k+1)):=⟨_,J⟩;rw [<-hz1,<-hz2,<-hz3] at r2;rw [<-hz2] at q1 c1;rw [<-hz1];have HZ:=Zh_ hz3;clear m l1 le1 le2 le3 q2 hz1 hz2 hz3 hS;go_wp2;go_roundw
   case rel=>exact ⟨k+1,by omega,by go_num,by rw [HZ.out],HM.out⟩
   case measure=>simp [intOf];omega
  ·obtain rfl:k=n:=by omega
   have d4:decide ((k:Int) < (k:Int))=false:=D9 (by omega);have e2:floatOfInt .f64 (100 * (k:Int))=fl (100 * k):=by
    show floatOfInt .f64 (100 * (k:Int))=floatOfInt .f64 ((100 * k:Nat):Int);congr 1
   have q1:(FloatKind.f64.format.order (fl (100 * k)) (floatOfInt .f64 (100 * (k:Int)))==I .eq)=true:=by rw [e2,T1 (by omega) (by omega),Nat.compare_eq_eq.2 rfl];rfl
   rw [hS];have Q:=Zh_ q1;clear m hS C1 HS HN e2 q1;go_wp2;go_ret;exact ⟨by show Ending.returned (.bool _)=_;rw [Q.out],HM.out⟩
end
end Go.Proofs.YtkhonmhnchdpkaaGreat
