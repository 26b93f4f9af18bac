/- A part of the proof; no condition. -/
import Derived.Test.YtkhonmhnchdpkaaGreatB16
set_option maxRecDepth 100000
set_option maxHeartbeats 40000000
namespace Go.Proofs.YtkhonmhnchdpkaaGreat
open Go.RowKit _root_.Go.Proofs.Tryz
open Go renaming World→W
open Value renaming int→U,slice→L
open IntKind renaming i64→Y
open Option renaming some→I,none→O
open Ending renaming returned→R_
open _root_.Go.Proofs.Tryz renaming prog→N
open List renaming getD_eq_getElem?_getD→G_
section
def Zh.wd (s:Zh) (i:Nat):Int:=s.ws.getD i 0
theorem Zh.jz {s:Zh} {i:Int} (h0:0<=i) (h1:i < s.ws.length):s.opened.acc i=0:=by
 unfold Zh.acc Zh.opened;simp;omega
theorem Zh.vy {s:Zh} {i:Int} (h0:0<=i) (h1:i < s.ws.length):s.opened.xv i=s.wd i.toNat:=by
 unfold Zh.xv;rw [P9 (Zh.jz h0 h1)];rfl
theorem Zh.zp (s:Zh) (i:Int):(s.load i).ws=s.ws:=by
 unfold Zh.load;split <;> rfl
theorem Zh.jj (s:Zh) (i v:Int):(s.store i v).ws.length=s.ws.length:=by
 unfold Zh.store;split
 ·simp [Zh.put,Zh.jb]
 ·rfl
theorem Zh.uz (s:Zh) (i v:Int):(s.add i v).ws.length=s.ws.length:=by
 unfold Zh.add;split
 ·simp [Zh.put,Zh.jb]
 ·rfl
theorem Zh.j7 (s:Zh) (i:Int) (v:Int) (j:Nat):(s.put i v).wd j=if i.toNat=j/\j < s.ws.length then v else s.wd j:=by
 unfold Zh.put Zh.wd;simp only [G_,List.getElem?_set]
 grind
theorem Zh.zv {s:Zh} {i:Int} (h0:0<=i) (h1:i < s.ws.length) (v:Int) (j:Nat):(s.opened.store i v).wd j=if i.toNat=j then v else s.wd j:=by
 unfold Zh.store;rw [P9 (Zh.jz h0 h1),Zh.j7];have e:s.opened.jb.ws=s.ws:=J;have e2:s.opened.jb.wd j=s.wd j:=J;rw [e,e2]
 grind
theorem Zh.xp {s:Zh} {i:Int} (v:Int) {j:Nat} (h:i.toNat≠j):(s.store i v).wd j=s.wd j:=by
 unfold Zh.store;split
 ·rw [Zh.j7,Q9 (by grind)];rfl
 ·rfl
theorem Zh.ke {s:Zh} {i:Int} (h0:0<=i) (h1:i < s.ws.length) (v:Int) (j:Nat):(s.opened.add i v).wd j=if i.toNat=j then IntKind.u64.wrap (s.wd i.toNat+v) else s.wd j:=by
 unfold Zh.add;rw [P9 (Zh.jz h0 h1),Zh.j7];have e:s.opened.jb.ws=s.ws:=J;have e2:s.opened.jb.wd j=s.wd j:=J;have e3:s.opened.at i=s.wd i.toNat:=J;rw [e,e2,e3]
 grind
theorem Zh.xn (s:Zh) (p4 c k:Int):(s.qv p4 c k).ws=s.ws:=by
 unfold Zh.qv;split
 ·exact Zh.zp _ _
 ·rfl
theorem Zh.yn (s:Zh) (p4 c k v:Int):(s.zj p4 c k v).ws.length=s.ws.length:=by
 unfold Zh.zj;split
 ·exact Zh.jj _ _ _
 ·rfl
theorem Zh.vz (s:Zh) {p4 c k:Int} (v:Int) {j:Nat} (hp:(j:Int) < p4) (hk:0<=k):(s.zj p4 c k v).wd j=s.wd j:=by
 unfold Zh.zj;split
 ·rename_i h;obtain ⟨a1,a2,a3,a4⟩:=V4 h;exact Zh.xp _ (by omega)
 ·rfl
theorem J8 {n:Int} (h0:0<=n) (h1:n < 1000000000000):u64 n=n:=by
 unfold u64;rw [IntKind.wrap_u64];omega
theorem Ff {n:Int} (h0:-1000000000000 < n) (h1:n < 1000000000000):wrap64 n=n:=IntWalk.wrap64_in n ⟨by omega,by omega⟩
end
section
structure J3 (s:Zk) (r:Zk×Xh):Prop where
 c0:r.1.c0=s.c0
 c1:r.1.c1=s.c1
 c2:r.1.c2=s.c2
 c3:r.1.c3=s.c3
 tag:r.1.tag=s.tag
 code:r.1.code=s.code
 args:r.1.args=s.args
 qy:r.1.buf.qy=s.buf.qy
 kind:r.2.kind=0\/r.2.kind=1\/r.2.kind=2\/r.2.kind=3\/r.2.kind=4
 k0:r.2.kind=0->r.1.buf=s.buf/\r.1.reads=s.reads
 k1:r.2.kind=1->r.1.waits=true/\r.1.cell=r.2.cell/\(0<=r.2.cell/\r.2.cell < s.c0)/\s.buf.known r.2.cell=false/\r.1.buf=s.buf/\r.1.reads=s.reads
 k2:r.2.kind=2->s.buf.known r.2.cell=true/\r.1.buf=s.buf/\r.1.reads=s.reads++[(r.2.cell,s.buf.val r.2.cell)]
 k3:r.2.kind=3->s.tag=2/\(0<=r.2.cell/\r.2.cell < s.c0)/\r.1.buf=s.buf.put r.2.cell r.2.x/\r.2.first=(!s.buf.known r.2.cell)/\r.1.reads=s.reads/\¬ (s.buf.known r.2.cell=false/\(s.buf.order.length:Int)=s.buf.qy)
 k4:r.2.kind=4->r.1.qq≠0/\r.1.buf=s.buf/\r.1.reads=s.reads
 wt:r.2.kind≠1->r.1.waits=false
 qq:r.2.kind≠4->r.1.qq=0
variable {s:Zk} {r:Zk×Xh} {v:Nat} {i:Xg}
theorem read_m (hw:s.waits=false) (hh:s.qq=0) (he:s.zx=.ok r):J3 s r:=by
 unfold Zk.zx at he;split at he
 ·cases he
 ·rename_i c hc;have hb:=T9 hc;split at he
  ·rename_i hk;simp only [Except.ok.injEq] at he;subst he;exact ⟨J,J,J,J,J,J,J,J,.inr (.inr (.inl J)),λ h=>by simp at h,λ h=>by simp at h,λ _=>⟨hk,J,J⟩,λ h=>by simp at h,λ h=>by simp at h,λ _=>hw,λ _=>hh⟩
  ·rename_i hk;simp only [Except.ok.injEq] at he;subst he;exact ⟨J,J,J,J,J,J,J,J,.inr (.inl J),λ h=>by simp at h,λ _=>⟨J,J,hb,by simpa using hk,rfl,rfl⟩,λ h=>by simp at h,λ h=>by simp at h,λ h=>by simp at h,λ h=>absurd J h,λ _=>hh⟩
theorem write_m (hw:s.waits=false) (hh:s.qq=0) (he:s.zh=.ok r):J3 s r:=by
 unfold Zk.zh at he;split at he
 ·cases he
 ·rename_i ht;split at he
  ·cases he
  ·rename_i c hc;have hb:=T9 hc;split at he
   ·cases he
   ·rename_i hf;simp only [Except.ok.injEq] at he;subst he;exact ⟨J,J,J,J,J,J,J,J,.inr (.inr (.inr (.inl J))),λ h=>by simp at h,λ h=>by simp at h,λ h=>by simp at h,λ _=>⟨by simpa using ht,hb,rfl,rfl,rfl,hf⟩,λ h=>by simp at h,λ _=>hw,λ _=>hh⟩
theorem J3.q0 {t:Zk} (h:∃ (l:List Nat) (k:List Int) (p:Int) (f:Nat->Nat) (o:List Nat),t={s with qd:=l,calls:=k,place:=p,locals:=f,out:=o}) (hw:s.waits=false) (hh:s.qq=0):J3 s (t,Z1 0):=by
 obtain ⟨l,k,p,f,o,rfl⟩:=h;exact ⟨J,J,J,J,J,J,J,J,.inl J,λ _=>⟨J,J⟩,λ h=>by simp [Z1] at h,λ h=>by simp [Z1] at h,λ h=>by simp [Z1] at h,λ h=>by simp [Z1] at h,λ _=>hw,λ _=>hh⟩
theorem J3.q4 {h c e:Int} (hn:h≠0) (hw:s.waits=false):J3 s (s.ends h c e,Z1 4):=
 ⟨rfl,rfl,rfl,rfl,rfl,rfl,rfl,rfl,.inr (.inr (.inr (.inr rfl))),λ h=>by simp [Z1] at h,λ h=>by simp [Z1] at h,λ h=>by simp [Z1] at h,λ h=>by simp [Z1] at h,λ _=>⟨hn,J,J⟩,λ _=>hw,λ h=>absurd J h⟩
theorem Le (v:Nat) (i:Xg) (s:Zk):∃ (l:List Nat) (k:List Int) (p:Int) (f:Nat->Nat) (o:List Nat),s.reckon v i={s with qd:=l,calls:=k,place:=p,locals:=f,out:=o}:=by
 unfold Zk.reckon
 by_cases h1:i.op=1
 ·rw [P9 h1];exact ⟨_,s.calls,s.place,s.locals,s.out,J⟩
 rw [Q9 h1]
 by_cases h2:i.op=2
 ·rw [P9 h2];exact ⟨_,s.calls,s.place,s.locals,s.out,J⟩
 rw [Q9 h2]
 by_cases h3:i.op=3
 ·rw [P9 h3];exact ⟨_,s.calls,s.place,s.locals,s.out,J⟩
 rw [Q9 h3]
 by_cases h4:i.op=4
 ·rw [P9 h4];exact ⟨_,s.calls,s.place,s.locals,s.out,J⟩
 rw [Q9 h4]
 by_cases h5:i.op=5
 ·rw [P9 h5];exact ⟨_,s.calls,s.place,s.locals,s.out,J⟩
 rw [Q9 h5]
 by_cases h6:i.op=6
 ·rw [P9 h6];exact ⟨_,s.calls,s.place,s.locals,s.out,J⟩
 rw [Q9 h6]
 by_cases h7:i.op=7
 ·rw [P9 h7];exact ⟨_,s.calls,s.place,s.locals,s.out,J⟩
 rw [Q9 h7]
 by_cases h8:i.op=8
 ·rw [P9 h8];exact ⟨_,s.calls,s.place,_,s.out,J⟩
 rw [Q9 h8]
 by_cases h9:i.op=9
 ·rw [P9 h9];exact ⟨_,s.calls,s.place,s.locals,s.out,J⟩
 rw [Q9 h9]
 by_cases h10:i.op=10
 ·rw [P9 h10];exact ⟨_,s.calls,s.place,s.locals,s.out,J⟩
 rw [Q9 h10]
 by_cases h18:i.op=18
 ·rw [P9 h18];exact ⟨_,s.calls,s.place,s.locals,_,J⟩
 rw [Q9 h18];exact ⟨s.qd,s.calls,s.place,s.locals,s.out,J⟩
theorem do_m (hw:s.waits=false) (hh:s.qq=0) (he:s.xt v i=.ok r):J3 s r:=by
 unfold Zk.xt at he;split at he
 ·exact read_m hw hh he
 split at he
 ·exact write_m hw hh he
 split at he
 ·simp only [Except.ok.injEq] at he;subst he;exact .q4 (by decide) hw
 split at he
 ·simp only [Except.ok.injEq] at he;subst he;exact .q4 (by decide) hw
 split at he
 ·simp only [Except.ok.injEq] at he;subst he;exact .q0 ⟨s.qd,s.calls,_,s.locals,s.out,J⟩ hw hh
 split at he
 ·simp only [Except.ok.injEq] at he;subst he;exact .q0 ⟨s.qd.dropLast,s.calls,_,s.locals,s.out,J⟩ hw hh
 split at he
 ·simp only [Except.ok.injEq] at he;subst he;exact .q0 ⟨s.qd,_,_,s.locals,s.out,J⟩ hw hh
 split at he
 ·split at he
  ·simp only [Except.ok.injEq] at he;subst he;exact .q4 (by decide) hw
  ·simp only [Except.ok.injEq] at he;subst he;exact .q0 ⟨s.qd,_,_,s.locals,s.out,J⟩ hw hh
 ·simp only [Except.ok.injEq] at he;subst he;exact .q0 (Le v i s) hw hh
theorem F8 (e:Int) (hw:s.waits=false):J3 s (s.fault e):=.q4 (by decide) hw
theorem J3.of_next (h:J3 s.next r):J3 s r:=⟨h.c0,h.c1,h.c2,h.c3,h.tag,h.code,h.args,h.qy,h.kind,h.k0,h.k1,h.k2,h.k3,h.k4,h.wt,h.qq⟩
theorem go_m (hw:s.waits=false) (hh:s.qq=0):J3 s (s.go v):=by
 unfold Zk.go;split
 ·exact (F8 (s:=s.next) 82 hw).of_next
 ·split
  ·rename_i r he;exact (do_m (s:=s.next) hw hh he).of_next
  ·exact (F8 (s:=s.next) _ hw).of_next
theorem Qw (v:Nat) (hw:s.waits=false):J3 s (s.step v):=by
 unfold Zk.step;rw [Q9 (by simp [hw])];split
 ·rename_i hh;exact ⟨J,J,J,J,J,J,J,J,.inr (.inr (.inr (.inr J))),λ h=>by simp [Z1] at h,λ h=>by simp [Z1] at h,λ h=>by simp [Z1] at h,λ h=>by simp [Z1] at h,λ _=>⟨hh,J,J⟩,λ _=>hw,λ h=>absurd J h⟩
 ·rename_i hh;have hh:s.qq=0:=Classical.not_not.mp hh;split
  ·exact F8 _ hw
  split
  ·exact F8 _ hw
  split
  ·exact F8 _ hw
  ·exact go_m hw hh
structure Bq (b:Xc):Prop where
 kn:∀ c,b.known c=true↔c∈b.order
 nd:b.order.Nodup
 room:(b.order.length:Int)<=b.qy
theorem Bq.nil (n:Int) (h:0<=n):Bq ⟨[],λ _=>O,n⟩:=⟨by simp [Xc.known],by simp,by simpa using h⟩
theorem Jy (b:Xc) (c:Int) (x:Nat) (d:Int):(b.put c x).known d=(decide (d=c) || b.known d):=by
 unfold Xc.known Xc.put Kq
 by_cases h:d=c <;> simp [h]
theorem Tz (b:Xc) (c:Int) (x:Nat) (d:Int):(b.put c x).val d=if d=c then Zq x else b.val d:=by
 unfold Xc.val Xc.put Kq
 by_cases h:d=c <;> simp [h]
theorem Qh (b:Xc) (c:Int) (x:Nat):(b.put c x).order=if b.known c=true then b.order else b.order++[c]:=J
theorem Bq.put {b:Xc} (h:Bq b) (c:Int) (x:Nat) (hr:¬ (b.known c=false/\(b.order.length:Int)=b.qy)):Bq (b.put c x):=by
 have e:(b.put c x).qy=b.qy:=J;cases hk:b.known c with
 |true=>
  refine ⟨λ d=>?_,?_,?_⟩
  ·rw [Jy,Qh,P9 hk,Bool.or_eq_true,decide_eq_true_eq,h.kn];constructor
   ·rintro (rfl|hd)
    ·exact (h.kn _).1 hk
    ·exact hd
   ·exact .inr
  ·rw [Qh,P9 hk];exact h.nd
  ·rw [Qh,P9 hk,e];exact h.room
 |false=>
  have hn:c∉b.order:=λ hm=>by rw [(h.kn c).2 hm] at hk;cases hk
  refine ⟨λ d=>?_,?_,?_⟩
  ·rw [Jy,Qh,Q9 (by simp [hk]),Bool.or_eq_true,decide_eq_true_eq,h.kn,List.mem_append,List.mem_singleton];exact or_comm
  ·rw [Qh,Q9 (by simp [hk]),List.nodup_append];exact ⟨h.nd,by simp,λ a ha b hb=>by simp at hb;subst hb;rintro rfl;exact hn ha⟩
  ·rw [Qh,Q9 (by simp [hk]),e,List.length_append];have:=h.room;have hne:(b.order.length:Int)≠b.qy:=λ he=>hr ⟨hk,he⟩;simp;omega
theorem step_buf (o:Bq s.buf) (v:Nat) (hw:s.waits=false):Bq (s.step v).1.buf:=by
 have m:=Qw v hw;rcases m.kind with h|h|h|h|h
 ·rw [(m.k0 h).1];exact o
 ·rw [(m.k1 h).2.2.2.2.1];exact o
 ·rw [(m.k2 h).2.1];exact o
 ·rw [(m.k3 h).2.2.1];exact o.put _ _ (m.k3 h).2.2.2.2.2
 ·rw [(m.k4 h).2.1];exact o
theorem O9 (v:Nat) (hw:s.waits=false):(s.step v).1.buf.order.length=s.buf.order.length+(if (s.step v).2.kind=3/\(s.step v).2.first=true then 1 else 0):=by
 have m:=Qw v hw;rcases m.kind with h|h|h|h|h
 ·rw [(m.k0 h).1,Q9 (by omega)];rfl
 ·rw [(m.k1 h).2.2.2.2.1,Q9 (by omega)];rfl
 ·rw [(m.k2 h).2.1,Q9 (by omega)];rfl
 ·obtain ⟨_,_,e,f,_⟩:=m.k3 h;rw [e,f,Qh];cases hk:s.buf.known (s.step v).2.cell <;> simp [h]
 ·rw [(m.k4 h).2.1,Q9 (by omega)];rfl
end
section
structure Bc (c0 c1:Int):Prop where
 a0:1<=c0
 a1:c0<=256
 b0:1<=c1
 b1:c1<=8
def Zh.cw (s:Zh) (c1 c j:Int):Int:=s.wd (Z2 c1+3 * c+j).toNat
variable {c0 c1 c j t:Int} {s:Zh} {x:Zv} {y:Z8} {v:Nat}
section
theorem Af (k:Bc c0 c1) (hl:(s.ws.length:Int)=Zw c0 c1) (h0:0<=c) (h1:c < c0) (j0:0<=j) (j2:j<=2):s.opened.qp (Z2 c1) c j=0:=by
 obtain ⟨a0,a1,b0,b1⟩:=k;unfold Zw at hl;unfold Zh.qp;rw [P9 (Xm (by omega) (by omega) (by unfold Z2;omega) (by unfold Z2;omega))];exact Zh.jz (by unfold Z2;omega) (by unfold Z2;omega)
theorem cw_val (k:Bc c0 c1) (hl:(s.ws.length:Int)=Zw c0 c1) (h0:0<=c) (h1:c < c0) (j0:0<=j) (j2:j<=2):s.opened.qm (Z2 c1) c j=s.cw c1 c j:=by
 obtain ⟨a0,a1,b0,b1⟩:=k;unfold Zw at hl;unfold Zh.qm;rw [P9 (Xm (by omega) (by omega) (by unfold Z2;omega) (by unfold Z2;omega))];exact Zh.vy (by unfold Z2;omega) (by unfold Z2;omega)
theorem cw_now (k:Bc c0 c1) (hl:(s.ws.length:Int)=Zw c0 c1) (h0:0<=c) (h1:c < c0):s.opened.vh (Z2 c1) c=Zq (s.cw c1 c 1).toNat:=by
 unfold Zh.vh;rw [P9 (Af k hl h0 h1 (by omega) (by omega)),cw_val k hl h0 h1 (by omega) (by omega)]
theorem cw_set (k:Bc c0 c1) (hl:(s.ws.length:Int)=Zw c0 c1) (h0:0<=c) (h1:c < c0) (j0:0<=j) (j2:j<=2) (u:Int) (n:Nat):(s.opened.zj (Z2 c1) c j u).wd n=if (Z2 c1+3 * c+j).toNat=n then u else s.wd n:=by
 obtain ⟨a0,a1,b0,b1⟩:=k;unfold Zw at hl;unfold Zh.zj;rw [P9 (Xm (by omega) (by omega) (by unfold Z2;omega) (by unfold Z2;omega))];exact Zh.zv (by unfold Z2;omega) (by unfold Z2;omega) u n
end
structure Jv (c0 c1:Int) (x:Zv):Prop where
 k0:x.c0=c0
 k1:x.c1=c1
 p1:1<=x.part
 p8:x.part<=8
 tag:x.tag=2
 mt:x.m.tag=2
 mc:x.m.c0=c0
 mo:Ym x.m
 wt:x.m.waits=false
 buf:Bq x.m.buf
 qy:x.m.buf.qy<=32
 bc:∀ c∈x.m.buf.order,0<=c/\c < c0
 ql:x.ql.length=x.m.buf.order.length
 scan:x.part=5->∃ nx po,0<=nx/\nx < c1/\x.scan=I ⟨0,1,2,3,Z2 c1,Zw c0 c1,c1,x.qg,nx,po⟩
 wr:x.part=6->x.written < x.ql.length/\∃ n,0<=n/\n < 3/\x.wr={wrOf c0 c1 (x.m.buf.all.getD x.written (0,0)).1 (x.ql.getD x.written 0) (u64 (x.qg+1)) (x.m.buf.all.getD x.written (0,0)).2 with n:=n}
 nb:x.part≠6->x.back=O
 num:x.part<=7->x.number=0
 wn:x.part<=5->x.written=0
 low:x.part<=3->x.m.reads=[]/\x.m.buf.order=[]/\x.m.out=[]
 jq:5<=x.part->x.part<=7->x.m.qq=1
 vj:x.part=8->x.m.qq≠0
 ar:x.args.length<=8
theorem Jv.cell (h:Jv c0 c1 x) (hp:x.part=6):0<=(x.m.buf.all.getD x.written (0,0)).1/\(x.m.buf.all.getD x.written (0,0)).1 < c0:=by
 have h1:=(h.wr hp).1;rw [h.ql] at h1;have hm:(x.m.buf.all.getD x.written (0,0)).1∈x.m.buf.order:=by
  unfold Xc.all;simp [G_,h1]
 exact h.bc _ hm
section
theorem Ve (k:Bc c0 c1) (hl:(s.ws.length:Int)=Zw c0 c1) (n:Int) (_:0<=n) (h1:n < 3+c1):n < s.ws.length:=by
 obtain ⟨a0,a1,b0,b1⟩:=k;unfold Zw at hl;omega
theorem Nf (k:Bc c0 c1) (hl:(s.ws.length:Int)=Zw c0 c1) (hp:x.part=1):x.step s.opened v=({x with qc:=s.wd 0,part:=2},s.opened.add 0 1):=by
 unfold Zv.step;rw [P9 hp,Zh.vy (by omega) (Ve k hl 0 (by omega) (by have:=k.b0;omega))];rfl
theorem Nd (k:Bc c0 c1) (hl:(s.ws.length:Int)=Zw c0 c1) (hp:x.part=2):x.step s.opened v=({x with part:=if s.wd 1=x.qc then 3 else 2},s.opened.load 1):=by
 have hlt:=Ve k hl 1 (by omega) (by have:=k.b0;omega);unfold Zv.step;rw [Q9 (by omega),P9 hp];unfold Zh.look;rw [P9 (Zh.jz (by omega) hlt),Zh.vy (by omega) hlt];simp
theorem Nc (k:Bc c0 c1) (hl:(s.ws.length:Int)=Zw c0 c1) (hp:x.part=3):x.step s.opened v=({x with qg:=s.wd 2,part:=4},s.opened.load 2):=by
 unfold Zv.step;rw [Q9 (by omega),Q9 (by omega),P9 hp,Zh.vy (by omega) (Ve k hl 2 (by omega) (by have:=k.b0;omega))];rfl
end
theorem w4_eq (hp:x.part=4):x.step s.opened v=x.runs s.opened v:=by
 unfold Zv.step;rw [Q9 (by omega),Q9 (by omega),Q9 (by omega),P9 hp]
theorem w5_eq (hp:x.part=5):x.step s.opened v=x.jc s.opened:=by
 unfold Zv.step;rw [Q9 (by omega),Q9 (by omega),Q9 (by omega),Q9 (by omega),P9 hp]
theorem w6_eq (hp:x.part=6):x.step s.opened v=x.writes s.opened:=by
 unfold Zv.step;rw [Q9 (by omega),Q9 (by omega),Q9 (by omega),Q9 (by omega),Q9 (by omega),P9 hp]
theorem Nb (hp:x.part=7):x.step s.opened v=({x with number:=wrap64 (u64 (x.qg+1)),part:=8},s.opened.store 2 (u64 (x.qg+1))):=by
 unfold Zv.step;rw [Q9 (by omega),Q9 (by omega),Q9 (by omega),Q9 (by omega),Q9 (by omega),Q9 (by omega),P9 hp]
theorem Na (hp:x.part=8):x.step s.opened v=({x with part:=9},s.opened.store 1 (u64 (x.qc+1))):=by
 unfold Zv.step;rw [Q9 (by omega),Q9 (by omega),Q9 (by omega),Q9 (by omega),Q9 (by omega),Q9 (by omega),Q9 (by omega)]
inductive Ran (x:Zv) (s:Zh) (v:Nat) (r:Zv×Zh):Prop where
 |quiet (hk:(x.m.step v).2.kind=0\/(x.m.step v).2.kind=2\/((x.m.step v).2.kind=3/\(x.m.step v).2.first=false)) (e:r=({x with m:=(x.m.step v).1},s.opened))
 |read (hk:(x.m.step v).2.kind=1) (e:r=({x with m:=(x.m.step v).1.xl (Zq (s.cw x.c1 (x.m.step v).2.cell 1).toNat)},s.opened.qv (Z2 x.c1) (x.m.step v).2.cell 1))
 |write (hk:(x.m.step v).2.kind=3) (hf:(x.m.step v).2.first=true) (e:r=({x with m:=(x.m.step v).1,ql:=x.ql++[Zq (s.cw x.c1 (x.m.step v).2.cell 1).toNat]},s.opened.qv (Z2 x.c1) (x.m.step v).2.cell 1))
 |wu (hk:(x.m.step v).2.kind=4) (hh:(x.m.step v).1.qq=1) (e:r=({x with m:=(x.m.step v).1,scan:=I (Kx x.c0 x.c1 x.qg),part:=5},s.opened))
 |stop (hk:(x.m.step v).2.kind=4) (hh:(x.m.step v).1.qq≠1) (e:r=({x with m:=(x.m.step v).1,part:=8},s.opened))
section
theorem Kv (k:Bc c0 c1) (hl:(s.ws.length:Int)=Zw c0 c1) (h:Jv c0 c1 x) (hp:x.part=4) (v:Nat):Ran x s v (x.step s.opened v):=by
 rw [w4_eq hp];have m:=Qw v h.wt;unfold Zv.runs;simp only
 by_cases h1:(x.m.step v).2.kind=1
 ·rw [P9 h1];obtain ⟨_,_,⟨c0',c1'⟩,_⟩:=m.k1 h1;refine .read h1 ?_;rw [h.k1,<-cw_now k hl c0' (by rw [<-h.mc];exact c1')]
 ·rw [Q9 h1]
  by_cases h3:(x.m.step v).2.kind=3/\(x.m.step v).2.first=true
  ·rw [P9 h3];obtain ⟨_,⟨c0',c1'⟩,_⟩:=m.k3 h3.1;refine .write h3.1 h3.2 ?_;rw [h.k1,<-cw_now k hl c0' (by rw [<-h.mc];exact c1')]
  ·rw [Q9 h3]
   by_cases h4:(x.m.step v).2.kind=4
   ·by_cases h5:(x.m.step v).1.qq=1
    ·rw [P9 ⟨h4,h5⟩];exact .wu h4 h5 J
    ·rw [Q9 (by omega),P9 h4];exact .stop h4 h5 J
   ·rw [Q9 (by omega),Q9 h4];refine .quiet ?_ J;rcases m.kind with q|q|q|q|q
    ·exact .inl q
    ·exact absurd q h1
    ·exact .inr (.inl q)
    ·refine .inr (.inr ⟨q,?_⟩);cases hf:(x.m.step v).2.first with
     |false=>rfl
     |true=>exact absurd ⟨q,hf⟩ h3
    ·exact absurd q h4
theorem Bs (k:Bc c0 c1) (hl:(s.ws.length:Int)=Zw c0 c1) (h:Jv c0 c1 x) (hp:x.part=5):∃ nx po,0<=nx/\nx < c1/\x.scan=I ⟨0,1,2,3,Z2 c1,Zw c0 c1,c1,x.qg,nx,po⟩/\(x.step s.opened v).2.ws=s.ws/\
  ((¬ (s.wd (3+nx).toNat=0\/x.qg < s.wd (3+nx).toNat)/\(x.step s.opened v).1={x with scan:=I ⟨0,1,2,3,Z2 c1,Zw c0 c1,c1,x.qg,nx,wrap64 (po+1)⟩})\/
   ((s.wd (3+nx).toNat=0\/x.qg < s.wd (3+nx).toNat)/\nx+1 < c1/\(x.step s.opened v).1={x with scan:=I ⟨0,1,2,3,Z2 c1,Zw c0 c1,c1,x.qg,nx+1,po⟩})\/
   ((s.wd (3+nx).toNat=0\/x.qg < s.wd (3+nx).toNat)/\nx+1=c1/\(x.step s.opened v).1={x with scan:=I ⟨0,1,2,3,Z2 c1,Zw c0 c1,c1,x.qg,nx+1,po⟩,part:=if 0 < x.ql.length then 6 else 7})):=by
 obtain ⟨nx,po,h0,h1,e⟩:=h.scan hp;have hlt:=Ve k hl (3+nx) (by omega) (by omega);have b0:=k.b0;have b1:=k.b1;have hpl:Yv 3 nx=0:=Gb h0 (by omega) (by omega) (by omega);have hacc:=Zh.jz (s:=s) (i:=3+nx) (by omega) hlt;have herr:(Z4.mk 0 1 2 3 (Z2 c1) (Zw c0 c1) c1 x.qg nx po).err s.opened=0:=by
  unfold Z4.err;simp only;rw [Q9 (by omega),Q9 (by omega)];unfold Zh.xr;rw [P9 hpl,hacc]
 have hpass:(Z4.mk 0 1 2 3 (Z2 c1) (Zw c0 c1) c1 x.qg nx po).jd s.opened=decide (s.wd (3+nx).toNat=0\/x.qg < s.wd (3+nx).toNat):=by
  unfold Z4.jd;simp only;rw [Zh.vy (by omega) hlt]
 rw [w5_eq hp];unfold Zv.jc;rw [e];refine ⟨nx,po,h0,h1,J,?_,?_⟩
 ·show (Z4.mem _ _).ws=s.ws;unfold Z4.mem;simp only;rw [Q9 (by omega),Q9 (by omega),P9 hpl,Zh.zp];rfl
 ·unfold Z4.next Z4.qf;simp only [herr,hpass]
  by_cases hc:s.wd (3+nx).toNat=0\/x.qg < s.wd (3+nx).toNat
  ·right
   by_cases hn:nx+1=c1
   ·right;refine ⟨hc,hn,?_⟩;simp [hc,hn]
   ·left;refine ⟨hc,by omega,?_⟩;simp [hc,hn,hp]
  ·left;refine ⟨hc,?_⟩;simp [hc,hp]
end
end
section
variable {c0 c1 c j t:Int} {s:Zh} {x:Zv} {y:Z8} {v:Nat}
def Zv.kv (x:Zv) (c0 c1:Int) (n:Int):X1:={wrOf c0 c1 (x.m.buf.all.getD x.written (0,0)).1 (x.ql.getD x.written 0) (u64 (x.qg+1)) (x.m.buf.all.getD x.written (0,0)).2 with n:=n}
def Xb (x:Zv):Int:=(x.m.buf.all.getD x.written (0,0)).1
def Yk (n:Int):Int:=if n=0 then 2 else if n=1 then 0 else 1
def Bi (x:Zv) (n:Int):Int:=if n=0 then (Zq (x.ql.getD x.written 0):Nat) else if n=1 then u64 (x.qg+1) else (Zq (x.m.buf.all.getD x.written (0,0)).2:Nat)
theorem Jv.za (h:Jv c0 c1 x) (v:Nat):((x.m.step v).1.c0=c0/\(x.m.step v).1.tag=2/\Ym (x.m.step v).1/\Bq (x.m.step v).1.buf/\(x.m.step v).1.buf.qy<=32/\∀ c∈(x.m.step v).1.buf.order,0<=c/\c < c0):=by
 have m:=Qw v h.wt;refine ⟨m.c0.trans h.mc,m.tag.trans h.mt,Dc h.mo v,step_buf h.buf v h.wt,by rw [m.qy];exact h.qy,?_⟩;rcases m.kind with q|q|q|q|q
 ·rw [(m.k0 q).1];exact h.bc
 ·rw [(m.k1 q).2.2.2.2.1];exact h.bc
 ·rw [(m.k2 q).2.1];exact h.bc
 ·obtain ⟨_,hc,e,_⟩:=m.k3 q;rw [e,Qh];intro d hd;split at hd
  ·exact h.bc d hd
  ·rw [List.mem_append,List.mem_singleton] at hd;rcases hd with hd|rfl
   ·exact h.bc d hd
   ·rw [<-h.mc];exact hc
 ·rw [(m.k4 q).2.1];exact h.bc
section
theorem Ku (k:Bc c0 c1) (hl:(s.ws.length:Int)=Zw c0 c1) (h:Jv c0 c1 x) (hp:x.part=6):∃ n,0<=n/\n < 3/\x.wr=x.kv c0 c1 n/\(x.step s.opened v).2=s.opened.zj (Z2 c1) (Xb x) (Yk n) (Bi x n)/\
  ((n < 2/\(x.step s.opened v).1={x with back:=I (x.kv c0 c1 (n+1))})\/
   (n=2/\x.written+1 < x.ql.length/\(x.step s.opened v).1={x with back:=O,written:=x.written+1})\/
   (n=2/\x.written+1=x.ql.length/\(x.step s.opened v).1={x with back:=O,written:=x.written+1,part:=7})):=by
 obtain ⟨hlt,n,h0,h3,e⟩:=h.wr hp;have e:x.wr=x.kv c0 c1 n:=e;obtain ⟨q0,q1⟩:=h.cell hp;have hw:(x.kv c0 c1 n).qu=Yk n:=J;have hww:0<=Yk n/\Yk n<=2:=by unfold Yk;split <;> (try split) <;> omega
 have herr:(x.kv c0 c1 n).err s.opened=0:=by
  unfold X1.err;rw [Q9 (by show n≠3;omega)];exact Af k hl q0 q1 hww.1 hww.2
 have hmem:(x.kv c0 c1 n).mem s.opened=s.opened.zj (Z2 c1) (Xb x) (Yk n) (Bi x n):=by
  unfold X1.mem;rw [Q9 (by show n≠3;omega)];rfl
 have hnext:(x.kv c0 c1 n).next s.opened=x.kv c0 c1 (n+1):=by
  unfold X1.next;rw [P9 herr];rfl
 have hover:(x.kv c0 c1 n).qf s.opened=(n+1==3):=by
  unfold X1.qf;rw [P9 herr];rfl
 rw [w6_eq hp];unfold Zv.writes;refine ⟨n,h0,h3,e,by simp only [e];exact hmem,?_⟩;simp only [e];unfold Zv.wrote;rw [hover,hnext]
 by_cases hn:n < 2
 ·left;refine ⟨hn,?_⟩;rw [Q9 (by simp;omega)];unfold Zv.ended;rw [Q9 (by show ¬ (x.written=x.ql.length);omega)]
 ·right;have hn2:n=2:=by omega
  subst hn2;rw [P9 (by rfl)];unfold Zv.ended
  by_cases hx:x.written+1=x.ql.length
  ·right;refine ⟨J,hx,?_⟩;rw [P9 (by exact hx)]
  ·left;refine ⟨J,by omega,?_⟩;rw [Q9 (by exact hx)]
theorem w_len (k:Bc c0 c1) (hl:(s.ws.length:Int)=Zw c0 c1) (h:Jv c0 c1 x) (v:Nat):(x.step s.opened v).2.ws.length=s.ws.length:=by
 have hh:x.part=1\/x.part=2\/x.part=3\/x.part=4\/x.part=5\/x.part=6\/x.part=7\/x.part=8:=by have:=h.p1;have:=h.p8;omega
 rcases hh with hp|hp|hp|hp|hp|hp|hp|hp
 ·rw [Nf k hl hp];exact Zh.uz _ _ _
 ·rw [Nd k hl hp];exact congrArg List.length (Zh.zp _ _)
 ·rw [Nc k hl hp];exact congrArg List.length (Zh.zp _ _)
 ·rcases Kv k hl h hp v with ⟨_,e⟩|⟨_,e⟩|⟨_,_,e⟩|⟨_,_,e⟩|⟨_,_,e⟩
  ·rw [e];rfl
  ·rw [e];exact congrArg List.length (Zh.xn _ _ _ _)
  ·rw [e];exact congrArg List.length (Zh.xn _ _ _ _)
  ·rw [e];rfl
  ·rw [e];rfl
 ·obtain ⟨_,_,_,_,_,e,_⟩:=Bs (v:=v) k hl h hp;rw [e]
 ·obtain ⟨_,_,_,_,e,_⟩:=Ku (v:=v) k hl h hp;rw [e];exact Zh.yn _ _ _ _ _
 ·rw [Nb hp];exact Zh.jj _ _ _
 ·rw [Na hp];exact Zh.jj _ _ _
theorem Jv.step (k:Bc c0 c1) (hl:(s.ws.length:Int)=Zw c0 c1) (h:Jv c0 c1 x) (v:Nat):(x.part=8/\(x.step s.opened v).1={x with part:=9})\/Jv c0 c1 (x.step s.opened v).1:=by
 have hh:x.part=1\/x.part=2\/x.part=3\/x.part=4\/x.part=5\/x.part=6\/x.part=7\/x.part=8:=by have:=h.p1;have:=h.p8;omega
 rcases hh with hp|hp|hp|hp|hp|hp|hp|hp
 ·right;rw [Nf k hl hp];exact {h with p1:=by simp,p8:=by simp,scan:=by simp,wr:=by simp,nb:=λ _=>h.nb (by omega),num:=λ _=>h.num (by omega),wn:=λ _=>h.wn (by omega),low:=λ _=>h.low (by omega),jq:=by simp,vj:=by simp}
 ·right;rw [Nd k hl hp];have q:(if s.wd 1=x.qc then (3:Int) else 2)=3\/(if s.wd 1=x.qc then (3:Int) else 2)=2:=by split <;> simp
  exact {h with p1:=by show 1<=(if s.wd 1=x.qc then (3:Int) else 2);omega,p8:=by show (if s.wd 1=x.qc then (3:Int) else 2)<=8;omega,scan:=λ h=>by replace h:(if s.wd 1=x.qc then (3:Int) else 2)=5:=h;omega,wr:=λ h=>by replace h:(if s.wd 1=x.qc then (3:Int) else 2)=6:=h;omega,nb:=λ _=>h.nb (by omega),num:=λ _=>h.num (by omega),wn:=λ _=>h.wn (by omega),low:=λ _=>h.low (by omega),jq:=λ h=>by replace h:5<=(if s.wd 1=x.qc then (3:Int) else 2):=h;omega,vj:=λ h=>by replace h:(if s.wd 1=x.qc then (3:Int) else 2)=8:=h;omega}
 ·right;rw [Nc k hl hp];exact {h with p1:=by simp,p8:=by simp,scan:=by simp,wr:=by simp,nb:=λ _=>h.nb (by omega),num:=λ _=>h.num (by omega),wn:=λ _=>h.wn (by omega),low:=λ h=>by simp at h,jq:=by simp,vj:=by simp}
 ·right;obtain ⟨m1,m2,m3,m4,m5,m6⟩:=h.za v;have m:=Qw v h.wt;have hmore:=O9 (s:=x.m) v h.wt;rcases Kv k hl h hp v with ⟨hk,e⟩|⟨hk,e⟩|⟨hk,hf,e⟩|⟨hk,hh,e⟩|⟨hk,hh,e⟩
  ·rw [Q9 (by rintro ⟨a,b⟩;rcases hk with q|q|⟨q,q'⟩;omega;omega;rw [b] at q';cases q')] at hmore;rw [e];exact {h with mt:=m2,mc:=m1,mo:=m3,wt:=m.wt (by omega),buf:=m4,qy:=m5,bc:=m6,ql:=by show x.ql.length=_;rw [h.ql,hmore];rfl,wr:=λ hq=>by replace hq:x.part=6:=hq;omega,low:=λ hq=>by replace hq:x.part<=3:=hq;omega,jq:=λ hq=>by replace hq:5<=x.part:=hq;omega,vj:=λ hq=>by replace hq:x.part=8:=hq;omega}
  ·rw [Q9 (by omega)] at hmore;rw [e];exact {h with mt:=m2,mc:=m1,mo:=m3.xl (m.k1 hk).1 _,wt:=J,buf:=m4,qy:=m5,bc:=m6,ql:=by show x.ql.length=(x.m.step v).1.buf.order.length;rw [h.ql,hmore];rfl,wr:=λ hq=>by replace hq:x.part=6:=hq;omega,low:=λ hq=>by replace hq:x.part<=3:=hq;omega,jq:=λ hq=>by replace hq:5<=x.part:=hq;omega,vj:=λ hq=>by replace hq:x.part=8:=hq;omega}
  ·rw [P9 ⟨hk,hf⟩] at hmore;rw [e];exact {h with mt:=m2,mc:=m1,mo:=m3,wt:=m.wt (by omega),buf:=m4,qy:=m5,bc:=m6,ql:=by show (x.ql++[_]).length=(x.m.step v).1.buf.order.length;rw [hmore,List.length_append,h.ql];rfl,wr:=λ hq=>by replace hq:x.part=6:=hq;omega,low:=λ hq=>by replace hq:x.part<=3:=hq;omega,jq:=λ hq=>by replace hq:5<=x.part:=hq;omega,vj:=λ hq=>by replace hq:x.part=8:=hq;omega}
  ·rw [Q9 (by omega)] at hmore;rw [e];exact {h with p1:=by simp,p8:=by simp,mt:=m2,mc:=m1,mo:=m3,wt:=m.wt (by omega),buf:=m4,qy:=m5,bc:=m6,ql:=by show x.ql.length=(x.m.step v).1.buf.order.length;rw [h.ql,hmore];rfl,scan:=λ _=>⟨0,0,by omega,by have:=k.b0;omega,by rw [h.k0,h.k1];rfl⟩,wr:=by simp,nb:=λ _=>h.nb (by omega),num:=λ _=>h.num (by omega),wn:=λ _=>h.wn (by omega),low:=by simp,jq:=λ _ _=>hh,vj:=by simp}
  ·rw [Q9 (by omega)] at hmore;rw [e];exact {h with p1:=by simp,p8:=by simp,mt:=m2,mc:=m1,mo:=m3,wt:=m.wt (by omega),buf:=m4,qy:=m5,bc:=m6,ql:=by show x.ql.length=(x.m.step v).1.buf.order.length;rw [h.ql,hmore];rfl,scan:=by simp,wr:=by simp,nb:=λ _=>h.nb (by omega),num:=by simp,wn:=by simp,low:=by simp,jq:=by simp,vj:=λ _=>(m.k4 hk).1}
 ·right;have hb:=h.nb (by omega);obtain ⟨nx,po,h0,h1,_,_,hr⟩:=Bs (v:=v) k hl h hp;rcases hr with ⟨_,e⟩|⟨_,h2,e⟩|⟨_,h2,e⟩
  ·rw [e];exact {h with scan:=λ _=>⟨nx,_,h0,h1,J⟩,wr:=λ hq=>by replace hq:x.part=6:=hq;omega}
  ·rw [e];exact {h with scan:=λ _=>⟨nx+1,po,by omega,by omega,rfl⟩,wr:=λ hq=>by replace hq:x.part=6:=hq;omega}
  ·rw [e]
   by_cases hw:0 < x.ql.length
   ·rw [P9 hw];exact {h with p1:=by simp,p8:=by simp,scan:=by simp,wr:=λ _=>⟨by show x.written < x.ql.length;rw [h.wn (by omega)];exact hw,0,by omega,by omega,by simp only [Zv.wr,hb,h.k0,h.k1];rfl⟩,nb:=by simp,num:=λ _=>h.num (by omega),wn:=by simp,low:=by simp,jq:=λ _ _=>h.jq (by omega) (by omega),vj:=by simp}
   ·rw [Q9 hw];exact {h with p1:=by simp,p8:=by simp,scan:=by simp,wr:=by simp,nb:=λ _=>hb,num:=λ _=>h.num (by omega),wn:=by simp,low:=by simp,jq:=λ _ _=>h.jq (by omega) (by omega),vj:=by simp}
 ·right;obtain ⟨n,h0,h3,e1,_,hr⟩:=Ku (v:=v) k hl h hp;have hlt:=(h.wr hp).1;rcases hr with ⟨h2,e⟩|⟨_,h2,e⟩|⟨_,h2,e⟩
  ·rw [e];exact {h with scan:=λ hq=>by replace hq:x.part=5:=hq;omega,wr:=λ _=>⟨hlt,n+1,by omega,by omega,rfl⟩,nb:=λ hq=>absurd hp hq,wn:=λ hq=>by replace hq:x.part<=5:=hq;omega}
  ·rw [e];exact {h with scan:=λ hq=>by replace hq:x.part=5:=hq;omega,wr:=λ _=>⟨h2,0,by omega,by omega,by rw [show (Zv.wr {x with back:=O,written:=x.written+1})=_ from J,h.k0,h.k1];rfl⟩,nb:=λ hq=>J,wn:=λ hq=>by replace hq:x.part<=5:=hq;omega}
  ·rw [e];exact {h with p1:=by simp,p8:=by simp,scan:=by simp,wr:=by simp,nb:=λ _=>J,num:=λ _=>h.num (by omega),wn:=by simp,low:=by simp,jq:=λ _ _=>h.jq (by omega) (by omega),vj:=by simp}
 ·right;rw [Nb hp];exact {h with p1:=by simp,p8:=by simp,scan:=by simp,wr:=by simp,nb:=λ _=>h.nb (by omega),num:=by simp,wn:=by simp,low:=by simp,jq:=by simp,vj:=λ _=>by show x.m.qq≠0;rw [h.jq (by omega) (by omega)];decide}
 ·left;rw [Na hp];exact ⟨hp,J⟩
end
end
section
variable {c0 c1 c j t:Int} {s:Zh} {y:Z8} {v:Nat} {r:Yu}
structure Rl (c0 c1:Int) (y:Z8) (r:Yu):Prop where
 gd:0<=r.pa
 pa3:r.pa<=3
 p4:r.p4=Z2 c1
 c:r.c=y.m.cell
 st:r.st=y.qh.st
 lo:0<=r.c
 hi:r.c < c0
structure Ks (c0 c1 t:Int) (y:Z8):Prop where
 k0:y.c0=c0
 k1:y.c1=c1
 p1:1<=y.part
 p3:y.part<=3
 th:y.thread=t
 t0:0<=t
 t1:t < c1
 tag:y.tag≠2
 mt:y.m.tag≠2
 mc:y.m.c0=c0
 mo:Ym y.m
 buf:y.m.buf.order=[]
 bk:∀ c,y.m.buf.known c=false
 qh:y.qh.p2=2/\y.qh.p3=3/\y.qh.th=t
 ci:y.qh.Inv
 n1:y.part=1->y.qh.n≠3
 n3:y.part≠1->y.qh.n=3
 rd:∀ r,y.read=I r->y.part=2/\y.m.waits=true/\Rl c0 c1 y r
 nw:y.read=O->y.m.waits=false
 qq:y.part=3->y.m.qq≠0
 low:y.part=1->y.m.reads=[]/\y.m.out=[]
 ar:y.args.length<=8
theorem Hl (r:Yu) (w:Int):(r.qz w).p4=r.p4/\(r.qz w).c=r.c/\(r.qz w).st=r.st:=by
 unfold Yu.qz;split
 ·exact ⟨J,J,J⟩
 split
 ·exact ⟨J,J,J⟩
 split <;> exact ⟨J,J,J⟩
structure RB (c0 c1 t:Int) (y:Z8):Prop where
 k0:y.c0=c0
 k1:y.c1=c1
 th:y.thread=t
 t0:0<=t
 t1:t < c1
 tag:y.tag≠2
 mt:y.m.tag≠2
 mc:y.m.c0=c0
 buf:y.m.buf.order=[]
 bk:∀ c,y.m.buf.known c=false
 qh:y.qh.p2=2/\y.qh.p3=3/\y.qh.th=t
 ci:y.qh.Inv
 n3:y.qh.n=3
 ar:y.args.length<=8
theorem Ks.za (h:Ks c0 c1 t y) (hr:y.read=O) (v:Nat):(y.m.step v).1.c0=c0/\(y.m.step v).1.tag≠2/\Ym (y.m.step v).1/\(y.m.step v).1.buf=y.m.buf:=by
 have m:=Qw v (h.nw hr);refine ⟨m.c0.trans h.mc,by rw [m.tag];exact h.mt,Dc h.mo v,?_⟩;rcases m.kind with q|q|q|q|q
 ·exact (m.k0 q).1
 ·exact (m.k1 q).2.2.2.2.1
 ·exact (m.k2 q).2.1
 ·exact absurd (m.k3 q).1 h.mt
 ·exact (m.k4 q).2.1
theorem Nq (k:Bc c0 c1) (h:Ks c0 c1 t y) (hp:y.part=3):y.step s.opened v=({y with part:=4},s.opened.store (3+t) 0):=by
 have t0:=h.t0;have t1:=h.t1;have b1:=k.b1;unfold Z8.step;rw [Q9 (by omega),Q9 (by omega),h.th];unfold Zh.leave;rw [P9 (Gb t0 (by omega) (by omega) (by omega))]
section
theorem Jc (k:Bc c0 c1) (hl:(s.ws.length:Int)=Zw c0 c1) (o:Rl c0 c1 y r):(y.zl r s.opened).2.ws=s.ws/\
  (((r.qz (s.cw c1 r.c r.qu)).pa=4/\(y.zl r s.opened).1={y with m:=y.m.xl (r.qz (s.cw c1 r.c r.qu)).va,read:=O})\/
   ((r.qz (s.cw c1 r.c r.qu)).pa≠4/\(y.zl r s.opened).1={y with read:=I (r.qz (s.cw c1 r.c r.qu))})):=by
 obtain ⟨a0,a3,e4,ec,est,l0,l1⟩:=o;have hw:0<=r.qu/\r.qu<=2:=by unfold Yu.qu;split <;> (try split) <;> omega
 have herr:r.err s.opened=0:=by
  unfold Yu.err;rw [Q9 (by omega),e4];exact Af k hl l0 l1 hw.1 hw.2
 have hnext:r.next s.opened=r.qz (s.cw c1 r.c r.qu):=by
  unfold Yu.next;rw [P9 herr,e4,cw_val k hl l0 l1 hw.1 hw.2]
 have hover:r.qf s.opened=((r.qz (s.cw c1 r.c r.qu)).pa==4):=by
  unfold Yu.qf;rw [P9 herr,hnext]
 unfold Z8.zl;refine ⟨?_,?_⟩
 ·show (r.mem s.opened).ws=s.ws;unfold Yu.mem;rw [Q9 (by omega),Zh.xn];rfl
 ·simp only [hover,hnext]
  by_cases h4:(r.qz (s.cw c1 r.c r.qu)).pa=4
  ·left;refine ⟨h4,?_⟩;rw [P9 (by simp [h4])];unfold Yu.value;rw [P9 h4]
  ·right;refine ⟨h4,?_⟩;rw [Q9 (by simp [h4])]
theorem RB.zl (k:Bc c0 c1) (hl:(s.ws.length:Int)=Zw c0 c1) (b:RB c0 c1 t y) (hp:y.part=2) (hw:y.m.waits=true) (mo:Ym y.m) (o:Rl c0 c1 y r):Ks c0 c1 t (y.zl r s.opened).1:=by
 have kp:=Hl r (s.cw c1 r.c r.qu);rcases (Jc k hl o).2 with ⟨h4,e⟩|⟨h4,e⟩
 ·rw [e];exact {b with p1:=by show 1<=y.part;omega,p3:=by show y.part<=3;omega,mo:=mo.xl hw _,n1:=λ hq=>by replace hq:y.part=1:=hq;omega,n3:=λ _=>b.n3,rd:=by simp,nw:=λ _=>J,qq:=λ hq=>by replace hq:y.part=3:=hq;omega,low:=λ hq=>by replace hq:y.part=1:=hq;omega}
 ·rw [e];have hi:(r.qz (s.cw c1 r.c r.qu)).Inv:=Yu.yq _ _;have i0:=hi.lo;have i4:=hi.hi;have hrd:∀ q,I (r.qz (s.cw c1 r.c r.qu))=I q->y.part=2/\y.m.waits=true/\Rl c0 c1 y q:=by
   intro q hq;obtain rfl:=Zo_ hq;exact ⟨hp,hw,i0,by omega,kp.1.trans o.p4,kp.2.1.trans o.c,kp.2.2.trans o.st,by rw [kp.2.1];exact o.lo,by rw [kp.2.1];exact o.hi⟩
  exact {b with p1:=by show 1<=y.part;omega,p3:=by show y.part<=3;omega,mo:=mo,n1:=λ hq=>by replace hq:y.part=1:=hq;omega,n3:=λ _=>b.n3,rd:=λ q hq=>⟨(hrd q hq).1,(hrd q hq).2.1,{(hrd q hq).2.2 with}⟩,nw:=λ hq=>(by cases hq),qq:=λ hq=>by replace hq:y.part=3:=hq;omega,low:=λ hq=>by replace hq:y.part=1:=hq;omega}
theorem r1_err (k:Bc c0 c1) (hl:(s.ws.length:Int)=Zw c0 c1) (h:Ks c0 c1 t y) (hp:y.part=1):y.qh.err s.opened=0:=by
 obtain ⟨e2,e3,et⟩:=h.qh;have t0:=h.t0;have t1:=h.t1;have b1:=k.b1;have b0:=k.b0;have a0:=k.a0;have hn:=h.n1 hp;unfold Zw at hl;unfold Yh.err;rw [Q9 hn,et,Q9 (by omega)]
 by_cases h1:y.qh.n=1
 ·rw [P9 h1,e3];unfold Zh.xr;rw [P9 (Gb t0 (by omega) (by omega) (by omega))];exact Zh.jz (by omega) (by omega)
 ·rw [Q9 h1,e2];exact Zh.jz (by omega) (by omega)
theorem Kz (k:Bc c0 c1) (hl:(s.ws.length:Int)=Zw c0 c1) (h:Ks c0 c1 t y) (hp:y.part=1):(y.qh.n=0/\(y.step s.opened v).1={y with qh:={y.qh with n:=1,cl:=s.wd 2},part:=1}/\(y.step s.opened v).2.ws=s.ws)\/
  (y.qh.n=1/\(y.step s.opened v).1={y with qh:={y.qh with n:=2},part:=1}/\(y.step s.opened v).2=s.opened.store (3+t) (u64 (y.qh.cl+1)))\/
  (y.qh.n=2/\(y.step s.opened v).1={y with qh:={y.qh with n:=3,st:=s.wd 2},part:=2}/\(y.step s.opened v).2.ws=s.ws):=by
 obtain ⟨e2,e3,et⟩:=h.qh;have herr:=r1_err k hl h hp;have t0:=h.t0;have t1:=h.t1;have b1:=k.b1;have b0:=k.b0;have a0:=k.a0;have hn:=h.n1 hp;have hlo:=h.ci.lo;have hhi:=h.ci.hi;have hl':=hl;unfold Zw at hl';have hgot:s.opened.xv 2=s.wd 2:=Zh.vy (by omega) (by omega);unfold Z8.step;rw [P9 hp];unfold Yh.next Yh.qf Yh.mem;simp only [herr,et,e2,e3];rcases (show y.qh.n=0\/y.qh.n=1\/y.qh.n=2 by omega) with q|q|q
 ·left;refine ⟨q,?_,?_⟩
  ·simp [q,hgot]
  ·rw [Q9 (by omega),Q9 (by omega),Q9 (by omega),Zh.zp];rfl
 ·right;left;refine ⟨q,?_,?_⟩
  ·simp [q]
  ·rw [Q9 (by omega),Q9 (by omega),P9 q,P9 (Gb t0 (by omega) (by omega) (by omega))];rfl
 ·right;right;refine ⟨q,?_,?_⟩
  ·simp [q,hgot]
  ·rw [Q9 (by omega),Q9 (by omega),Q9 (by omega),Zh.zp];rfl
theorem Bv (k:Bc c0 c1) (hl:(s.ws.length:Int)=Zw c0 c1) (h:Ks c0 c1 t y) (hp:y.part=2) (v:Nat):(y.step s.opened v).2.ws=s.ws/\
  ((∃ r,y.read=I r/\(y.step s.opened v).1=(y.zl r s.opened).1)\/
   (y.read=O/\(y.m.step v).2.kind=1/\(y.step s.opened v).1=(Z8.zl {y with m:=(y.m.step v).1} (Xu c0 c1 (y.m.step v).2.cell y.qh.st) s.opened).1/\Rl c0 c1 {y with m:=(y.m.step v).1} (Xu c0 c1 (y.m.step v).2.cell y.qh.st))\/
   (y.read=O/\(y.m.step v).2.kind=4/\(y.step s.opened v).1={y with m:=(y.m.step v).1,part:=3})\/
   (y.read=O/\(y.m.step v).2.kind=0/\(y.step s.opened v).1={y with m:=(y.m.step v).1})):=by
 have e:y.step s.opened v=y.run s.opened v:=by
  unfold Z8.step;rw [Q9 (by omega),P9 hp]
 rw [e];obtain hr|⟨r,hr⟩:y.read=O\/∃ r,y.read=I r:=by
  cases y.read with
  |none=>exact .inl J
  |some r=>exact .inr ⟨r,J⟩
 ·have e:y.run s.opened v=(if (y.m.step v).2.kind=1 then Z8.zl {y with m:=(y.m.step v).1} (Xu y.c0 y.c1 (y.m.step v).2.cell y.qh.st) s.opened
    else ({y with m:=(y.m.step v).1,part:=if (y.m.step v).2.kind=4 then 3 else y.part},s.opened)):=by
   unfold Z8.run;rw [hr]
  have m:=Qw v (h.nw hr);rw [e]
  by_cases h1:(y.m.step v).2.kind=1
  ·obtain ⟨_,ec,⟨l0,l1⟩,_⟩:=m.k1 h1;rw [h.mc] at l1;have o:Rl c0 c1 {y with m:=(y.m.step v).1} (Xu c0 c1 (y.m.step v).2.cell y.qh.st):=⟨by show (0:Int)<=0;omega,by show (0:Int)<=3;omega,rfl,ec.symm,rfl,l0,l1⟩;have e0:Xu y.c0 y.c1 (y.m.step v).2.cell y.qh.st=Xu c0 c1 (y.m.step v).2.cell y.qh.st:=by rw [h.k0,h.k1]
   rw [P9 h1,e0];exact ⟨(Jc k hl o).1,.inr (.inl ⟨hr,h1,J,o⟩)⟩
  ·rw [Q9 h1];refine ⟨J,.inr (.inr ?_)⟩;rcases m.kind with q|q|q|q|q
   ·right;exact ⟨hr,q,by simp [q]⟩
   ·exact absurd q h1
   ·have:=(m.k2 q).1;rw [h.bk] at this;cases this
   ·exact absurd (m.k3 q).1 h.mt
   ·left;exact ⟨hr,q,by simp [q]⟩
 ·have e:y.run s.opened v=y.zl r s.opened:=by
   unfold Z8.run;rw [hr]
  rw [e];exact ⟨(Jc k hl (h.rd r hr).2.2).1,.inl ⟨r,hr,J⟩⟩
theorem r_len (k:Bc c0 c1) (hl:(s.ws.length:Int)=Zw c0 c1) (h:Ks c0 c1 t y) (v:Nat):(y.step s.opened v).2.ws.length=s.ws.length:=by
 have hh:y.part=1\/y.part=2\/y.part=3:=by have:=h.p1;have:=h.p3;omega
 rcases hh with hp|hp|hp
 ·rcases Kz (v:=v) k hl h hp with ⟨_,_,e⟩|⟨_,_,e⟩|⟨_,_,e⟩
  ·rw [e]
  ·rw [e];exact Zh.jj _ _ _
  ·rw [e]
 ·rw [(Bv k hl h hp v).1]
 ·rw [Nq k h hp];exact Zh.jj _ _ _
theorem Ks.step (k:Bc c0 c1) (hl:(s.ws.length:Int)=Zw c0 c1) (h:Ks c0 c1 t y) (v:Nat):(y.part=3/\(y.step s.opened v).1={y with part:=4})\/Ks c0 c1 t (y.step s.opened v).1:=by
 have hh:y.part=1\/y.part=2\/y.part=3:=by have:=h.p1;have:=h.p3;omega
 have hci:=h.ci;rcases hh with hp|hp|hp
 ·right;have hn:y.read=O:=by
   cases hr:y.read with
   |none=>rfl
   |some r=>have:=(h.rd r hr).1;omega
  rcases Kz (v:=v) k hl h hp with ⟨q,e,_⟩|⟨q,e,_⟩|⟨q,e,_⟩
  ·rw [e];exact {h with p1:=by simp,p3:=by simp,ci:=⟨by simp,by simp,by simp,λ _=>hci.st (by omega)⟩,n1:=by simp,n3:=by simp,rd:=λ r hr=>(by rw [show y.read=I r from hr] at hn;cases hn),qq:=by simp,low:=λ _=>h.low hp}
  ·rw [e];exact {h with p1:=by simp,p3:=by simp,ci:=⟨by simp,by simp,by simp,λ _=>hci.st (by omega)⟩,n1:=by simp,n3:=by simp,rd:=λ r hr=>(by rw [show y.read=I r from hr] at hn;cases hn),qq:=by simp,low:=λ _=>h.low hp}
  ·rw [e];exact {h with p1:=by simp,p3:=by simp,ci:=⟨by simp,by simp,by simp,λ hq=>absurd J hq⟩,n1:=by simp,n3:=by simp,rd:=λ r hr=>(by rw [show y.read=I r from hr] at hn;cases hn),qq:=by simp,low:=by simp}
 ·right;have b:RB c0 c1 t y:=⟨h.k0,h.k1,h.th,h.t0,h.t1,h.tag,h.mt,h.mc,h.buf,h.bk,h.qh,h.ci,h.n3 (by omega),h.ar⟩;obtain ⟨_,hr⟩:=Bv k hl h hp v;rcases hr with ⟨r,hr,e⟩|⟨hr,h1,e,o⟩|⟨hr,h1,e⟩|⟨hr,h1,e⟩
  ·obtain ⟨_,hw,o⟩:=h.rd r hr;rw [e];exact RB.zl k hl b hp hw h.mo o
  ·obtain ⟨m1,m2,m3,m4⟩:=h.za hr v;have m:=Qw v (h.nw hr);rw [e];exact RB.zl (y:={y with m:=(y.m.step v).1}) k hl {b with mt:=m2,mc:=m1,buf:=by rw [<-b.buf,<-m4],bk:=λ c=>by rw [<-b.bk c,<-m4]} hp (m.k1 h1).1 m3 o
  ·obtain ⟨m1,m2,m3,m4⟩:=h.za hr v;have m:=Qw v (h.nw hr);rw [e];exact {h with p1:=by simp,p3:=by simp,mt:=m2,mc:=m1,mo:=m3,buf:=by rw [<-b.buf,<-m4],bk:=λ c=>by rw [<-b.bk c,<-m4],n1:=by simp,n3:=λ _=>b.n3,rd:=λ r q=>(by rw [show y.read=I r from q] at hr;cases hr),nw:=λ _=>m.wt (by omega),qq:=λ _=>(m.k4 h1).1,low:=by simp}
  ·obtain ⟨m1,m2,m3,m4⟩:=h.za hr v;have m:=Qw v (h.nw hr);rw [e];exact {h with mt:=m2,mc:=m1,mo:=m3,buf:=by rw [<-b.buf,<-m4],bk:=λ c=>by rw [<-b.bk c,<-m4],rd:=λ r q=>(by rw [show y.read=I r from q] at hr;cases hr),nw:=λ _=>m.wt (by omega),qq:=λ q=>by replace q:y.part=3:=q;omega,low:=λ q=>by replace q:y.part=1:=q;omega}
 ·left;rw [Nq k h hp];exact ⟨hp,J⟩
end
end
section
def Rp (c0 c1 t:Int):Qt->Prop
 |.wr x=>Jv c0 c1 x
 |.rd y=>Ks c0 c1 t y
structure Yi (s:Zn):Prop where
 cf:Y1 s.c0 s.c1 s.c2 s.c3
 nt:s.c1=s.qi.length
 len:(s.mem.ws.length:Int)=Zw s.c0 s.c1
 begun:∀ t,t < s.qi.length->(s.th t).begun<=(s.th t).calls.length/\(s.th t).calls.length<=64
 call:∀ t c,t < s.qi.length->c∈(s.th t).calls->0<=c.1/\c.1 < s.progs.length/\c.2.length<=8
 prog:∀ p∈s.progs,p.2.length<=5864062014635
 cur:∀ (t i:Nat),t < s.qi.length->(s.th t).cur=I i->∃ raw g,s.qe[i]? =I ⟨raw,I g⟩/\raw.th=(t:Int)/\raw.ended=0
 tx:∀ (i:Nat) raw g,s.qe[i]? =I ⟨raw,I g⟩->∃ t:Nat,t < s.qi.length/\(s.th t).cur=I i/\raw.th=(t:Int)/\Rp s.c0 s.c1 t g
 st:s.qe.length<=s.steps
variable {s:Zn} {t i:Nat} {raw:Zu} {g:Qt} {v:Nat}
theorem Yi.cfg (h:Yi s):Bc s.c0 s.c1:=by
 obtain ⟨a,b,c,d,_⟩:=h.cf;exact ⟨a,b,c,d⟩
theorem Yi.one (h:Yi s) {t u:Nat} (ht:t < s.qi.length) (hu:u < s.qi.length) (e1:(s.th t).cur=I i) (e2:(s.th u).cur=I i):t=u:=by
 obtain ⟨r1,g1,x1,f1,_⟩:=h.cur t i ht e1;obtain ⟨r2,g2,x2,f2,_⟩:=h.cur u i hu e2;rw [x1] at x2;simp at x2;rw [x2.1] at f1;omega
theorem Hm (l:List Qy) (t u:Nat) (x:Qy) (ht:t < l.length):(l.set t x).getD u Bj=if u=t then x else l.getD u Bj:=by
 simp only [G_,List.getElem?_set]
 by_cases h:t=u
 ·subst h;simp [ht]
 ·simp [h,Ne.symm h]
theorem Gx {α:Type} {l:List α} {n:Nat} {d:α} (h:n < l.length):l.getD n d∈l:=by
 simp [G_,h]
theorem Wp {c0 c1 c2 c3 tag:Int} {code:List Xg} {args:List Nat} (hc:Y1 c0 c1 c2 c3):Ym (Uw c0 c1 c2 c3 tag code args):=by
 obtain ⟨a,b,c,d,e,f,g,h⟩:=hc;exact ⟨by simp [Uw],by simp [Uw];omega,by simp [Uw];omega,by simp [Uw],by simp [Uw],by simp [Uw],by simp [Uw],by simp [Uw],by simp [Uw],by simp [Uw],by simp [Uw],rfl,by simp [Uw];omega,by simp [Uw]⟩
theorem newW_ok {c0 c1 c2 c3 tag:Int} {code:List Xg} {args:List Nat} (hc:Y1 c0 c1 c2 c3) (ht:tag=2) (ha:args.length<=8):Jv c0 c1 (Ul c0 c1 c2 c3 tag code args):=by
 have hm:=Wp (tag:=tag) (code:=code) (args:=args) hc;obtain ⟨a,b,c,d,e,f,g,h⟩:=hc;exact {k0:=J,k1:=J,p1:=by simp [Ul],p8:=by simp [Ul],tag:=ht,mt:=ht,mc:=J,mo:=hm,wt:=J,buf:=Bq.nil _ (by omega),qy:=h,bc:=by simp [Ul,Uw],ql:=J,scan:=by simp [Ul],wr:=by simp [Ul],nb:=λ _=>J,num:=λ _=>J,wn:=λ _=>J,low:=λ _=>⟨J,J,J⟩,jq:=by simp [Ul],vj:=by simp [Ul],ar:=by simpa [Ul] using ha}
theorem newR_ok {c0 c1 c2 c3 t tag:Int} {code:List Xg} {args:List Nat} (hc:Y1 c0 c1 c2 c3) (ht:tag≠2) (t0:0<=t) (t1:t < c1) (ha:args.length<=8):Ks c0 c1 t (Ug c0 c1 c2 c3 t tag code args):=by
 have hm:=Wp (tag:=tag) (code:=code) (args:=args) hc;exact {k0:=J,k1:=J,p1:=by simp [Ug],p3:=by simp [Ug],th:=J,t0:=t0,t1:=t1,tag:=ht,mt:=ht,mc:=J,mo:=hm,buf:=J,bk:=λ _=>J,qh:=⟨J,J,J⟩,ci:=⟨by simp [Ug,Mb],by simp [Ug,Mb],λ _=>J,λ _=>J⟩,n1:=by simp [Ug,Mb],n3:=by simp [Ug],rd:=λ r hr=>(by cases hr),nw:=λ _=>J,qq:=by simp [Ug],low:=λ _=>⟨J,J⟩,ar:=by simpa [Ug] using ha}
theorem Yi.yi (h:Yi s) (ht:t < s.qi.length) (hb:(s.th t).begun < (s.th t).calls.length):0<=(s.call t).1/\(s.call t).1 < s.progs.length/\(s.call t).2.length<=8:=
 h.call t _ ht (Gx hb)
theorem Yi.xb (h:Yi s) (ht:t < s.qi.length) (hb:(s.th t).begun < (s.th t).calls.length):Rp s.c0 s.c1 t (s.xb t):=by
 unfold Zn.xb;split
 ·rename_i e;exact newW_ok h.cf e (h.yi ht hb).2.2
 ·rename_i e;exact newR_ok h.cf e (by omega) (by rw [h.nt];omega) (h.yi ht hb).2.2
theorem Yi.tick (h:Yi s):Yi {s with steps:=s.steps+1}:=
 ⟨h.cf,h.nt,h.len,h.begun,h.call,h.prog,h.cur,h.tx,by have:=h.st;show s.qe.length<=s.steps+1;omega⟩
theorem Yi.begin (h:Yi s) (ht:t < s.qi.length) (hc:(s.th t).cur=O) (hb:(s.th t).begun < (s.th t).calls.length) (hs:s.qe.length < s.steps):Yi (s.begin t):=by
 have hth:∀ u,(s.begin t).th u=if u=t then {s.th t with cur:=I s.qe.length,begun:=(s.th t).begun+1} else s.th u:=λ u=>Hm _ _ _ _ ht
 have hl:(s.begin t).qi.length=s.qi.length:=by simp [Zn.begin]
 have hx:(s.begin t).qe=s.qe++[⟨Xj t (s.th t).begun (s.call t).1 s.steps,I (s.xb t)⟩]:=J;refine ⟨h.cf,h.nt.trans (by rw [hl]),h.len,?_,?_,h.prog,?_,?_,?_⟩
 ·intro u hu;rw [hl] at hu;rw [hth]
  by_cases e:u=t
  ·subst e;rw [P9 rfl];have:=(h.begun u ht).2;exact ⟨hb,this⟩
  ·rw [Q9 e];exact h.begun u hu
 ·intro u c hu hm;rw [hl] at hu;rw [hth] at hm
  by_cases e:u=t
  ·subst e;rw [P9 rfl] at hm;exact h.call u c ht hm
  ·rw [Q9 e] at hm;exact h.call u c hu hm
 ·intro u i hu hi;rw [hl] at hu;rw [hth] at hi
  by_cases e:u=t
  ·subst e;rw [P9 rfl] at hi;simp at hi;subst hi;exact ⟨_,_,by rw [hx];simp;exact ⟨J,J⟩,J,J⟩
  ·rw [Q9 e] at hi;obtain ⟨raw,g,h1,h2⟩:=h.cur u i hu hi;exact ⟨raw,g,by rw [hx,List.getElem?_append_left (List.getElem?_eq_some_iff.1 h1).1];exact h1,h2⟩
 ·intro i raw g hi;rw [hx,List.getElem?_append] at hi;split at hi
  ·obtain ⟨u,hu,h1,h2⟩:=h.tx i raw g hi;refine ⟨u,by rw [hl];exact hu,?_,h2⟩;rw [hth,Q9 (by rintro rfl;rw [hc] at h1;cases h1)];exact h1
  ·rename_i hn;rw [List.getElem?_singleton] at hi;split at hi
   ·rename_i hz;simp at hi;obtain ⟨rfl,rfl⟩:=hi;refine ⟨t,by rw [hl];exact ht,?_,J,h.xb ht hb⟩;rw [hth,P9 rfl];show I _=I _;congr 1;omega
   ·cases hi
 ·rw [hx];show _<=s.steps;simp;omega
theorem Yi.ready (h:Yi s) (ht:t < s.qi.length) (hf:(s.th t).fin=false):Yi (s.ready t)/\(s.ready t).qi.length=s.qi.length/\∃ i,((s.ready t).th t).cur=I i:=by
 unfold Zn.ready;cases hc:(s.th t).cur with
 |some i=>
  rw [Q9 (by simp)];exact ⟨h.tick,J,i,hc⟩
 |none=>
  rw [P9 (by rfl)];have hb:(s.th t).begun < (s.th t).calls.length:=by
   unfold Qy.fin at hf;rw [hc] at hf;simp at hf;have:=(h.begun t ht).1;omega
  have hs:=h.st;refine ⟨h.tick.begin ht hc hb (by show s.qe.length < s.steps+1;omega),by simp [Zn.begin],s.qe.length,?_⟩;show ((s.qi.set t _).getD t Bj).cur=_;rw [Hm _ _ _ _ ht,P9 rfl]
def Zn.zc (s:Zn) (t i:Nat) (raw:Zu) (r:Qt×Zh):Zn:=
 if r.1.qf=true then {s with mem:=r.2,qi:=s.qi.set t {s.th t with cur:=O},qe:=s.qe.set i ⟨{raw.join r.1.told with ended:=s.steps},O⟩}
 else {s with mem:=r.2,qe:=s.qe.set i ⟨raw,I r.1⟩}
theorem Ux (hc:(s.th t).cur=I i) (hx:s.qe[i]? =I ⟨raw,I g⟩) (v:Nat):s.j9 t v=s.zc t i raw (g.step s.mem.opened v):=by
 unfold Zn.j9;rw [hc];simp only;rw [hx];rfl
theorem Rp.step {c0 c1 t:Int} {m:Zh} (k:Bc c0 c1) (hl:(m.ws.length:Int)=Zw c0 c1) (h:Rp c0 c1 t g) (v:Nat):(((g.step m.opened v).1.qf=true)\/((g.step m.opened v).1.qf=false/\Rp c0 c1 t (g.step m.opened v).1))/\(g.step m.opened v).2.ws.length=m.ws.length:=by
 cases g with
 |wr x=>
  refine ⟨?_,w_len k hl h v⟩;rcases Jv.step k hl h v with e|e
  ·left;show ((x.step m.opened v).1.part==9)=true;rw [e.2];rfl
  ·right;refine ⟨?_,e⟩;have:=e.p8;show ((x.step m.opened v).1.part==9)=false;simp;omega
 |rd y=>
  refine ⟨?_,r_len k hl h v⟩;rcases Ks.step k hl h v with e|e
  ·left;show ((y.step m.opened v).1.part==4)=true;rw [e.2];rfl
  ·right;refine ⟨?_,e⟩;have:=e.p3;show ((y.step m.opened v).1.part==4)=false;simp;omega
def Ro:Qt->Prop
 |.wr x=>Ym x.m/\x.args.length<=8
 |.rd y=>Ym y.m/\y.args.length<=8
theorem Rp.tell {c0 c1 t:Int} (h:Rp c0 c1 t g):Ro g:=by
 cases g with
 |wr x=>exact ⟨Jv.mo h,Jv.ar h⟩
 |rd y=>exact ⟨Ks.mo h,Ks.ar h⟩
theorem Rp.yr {c0 c1 t:Int} {m:Zh} (k:Bc c0 c1) (hl:(m.ws.length:Int)=Zw c0 c1) (h:Rp c0 c1 t g) (v:Nat):Ro (g.step m.opened v).1:=by
 cases g with
 |wr x=>
  have hm:Jv c0 c1 x:=h;rcases Jv.step k hl h v with e|e
  ·show Ym (x.step m.opened v).1.m/\(x.step m.opened v).1.args.length<=8;rw [e.2];exact ⟨hm.mo,hm.ar⟩
  ·exact ⟨e.mo,e.ar⟩
 |rd y=>
  have hm:Ks c0 c1 t y:=h;rcases Ks.step k hl h v with e|e
  ·show Ym (y.step m.opened v).1.m/\(y.step m.opened v).1.args.length<=8;rw [e.2];exact ⟨hm.mo,hm.ar⟩
  ·exact ⟨e.mo,e.ar⟩
theorem Yi.zc (h:Yi s) (ht:t < s.qi.length) (hc:(s.th t).cur=I i) (hx:s.qe[i]? =I ⟨raw,I g⟩) (v:Nat):Yi (s.zc t i raw (g.step s.mem.opened v)):=by
 obtain ⟨u,hu,hcu,hru,hg⟩:=h.tx i raw g hx;obtain rfl:=h.one ht hu hc hcu;have hi:=(List.getElem?_eq_some_iff.1 hx).1;obtain ⟨ho,hlen⟩:=Rp.step h.cfg h.len hg v;have htx:∀ (z:Vb) (j:Nat),(s.qe.set i z)[j]? =if i=j then I z else s.qe[j]?:=by
  intro z j;rw [List.getElem?_set]
  by_cases e:i=j
  ·rw [P9 e,P9 e,P9 (by omega)]
  ·rw [Q9 e,Q9 e]
 rcases ho with ho|⟨ho,hs⟩
 ·have e:s.zc t i raw (g.step s.mem.opened v)={s with mem:=(g.step s.mem.opened v).2,qi:=s.qi.set t {s.th t with cur:=O},qe:=s.qe.set i ⟨{raw.join (g.step s.mem.opened v).1.told with ended:=s.steps},O⟩}:=by unfold Zn.zc;rw [P9 ho]
  rw [e];have hth:∀ u,Zn.th {s with mem:=(g.step s.mem.opened v).2,qi:=s.qi.set t {s.th t with cur:=O},qe:=s.qe.set i ⟨{raw.join (g.step s.mem.opened v).1.told with ended:=s.steps},O⟩} u=if u=t then {s.th t with cur:=O} else s.th u:=λ u=>Hm _ _ _ _ ht
  refine ⟨h.cf,h.nt.trans (by simp),?_,?_,?_,h.prog,?_,?_,?_⟩
  ·show (((g.step s.mem.opened v).2.ws.length:Nat):Int)=_;rw [hlen];exact h.len
  ·intro u hu;rw [hth];have hu:u < s.qi.length:=by simpa using hu
   by_cases e:u=t
   ·rw [P9 e];exact h.begun t ht
   ·rw [Q9 e];exact h.begun u hu
  ·intro u c hu hm;have hu:u < s.qi.length:=by simpa using hu
   rw [hth] at hm
   by_cases e:u=t
   ·rw [P9 e] at hm;exact h.call t c ht hm
   ·rw [Q9 e] at hm;exact h.call u c hu hm
  ·intro u j hu hj;have hu:u < s.qi.length:=by simpa using hu
   rw [hth] at hj
   by_cases e:u=t
   ·rw [P9 e] at hj;cases hj
   ·rw [Q9 e] at hj;obtain ⟨r2,g2,x2,f2⟩:=h.cur u j hu hj;refine ⟨r2,g2,?_,f2⟩;rw [htx,Q9 (by rintro rfl;exact e (h.one hu ht hj hc))];exact x2
  ·intro j r2 g2 hj;rw [htx] at hj
   by_cases e:i=j
   ·rw [P9 e] at hj;simp at hj
   ·rw [Q9 e] at hj;obtain ⟨u,hu,hcu,h3⟩:=h.tx j r2 g2 hj;refine ⟨u,by simpa using hu,?_,h3⟩;rw [hth,Q9 (λ e2=>by rw [e2,hc] at hcu;simp at hcu;exact e hcu)];exact hcu
  ·show (s.qe.set _ _).length<=s.steps;simpa using h.st
 ·have e:s.zc t i raw (g.step s.mem.opened v)={s with mem:=(g.step s.mem.opened v).2,qe:=s.qe.set i ⟨raw,I (g.step s.mem.opened v).1⟩}:=by unfold Zn.zc;rw [Q9 (by simp [ho])]
  rw [e];refine ⟨h.cf,h.nt,?_,h.begun,h.call,h.prog,?_,?_,?_⟩
  ·show (((g.step s.mem.opened v).2.ws.length:Nat):Int)=_;rw [hlen];exact h.len
  ·intro u j hu hj;obtain ⟨r2,g2,x2,f2⟩:=h.cur u j hu hj
   by_cases e:i=j
   ·subst e;rw [hx] at x2;simp at x2;exact ⟨raw,_,by rw [htx,P9 rfl],by rw [x2.1];exact f2⟩
   ·exact ⟨r2,g2,by rw [htx,Q9 e];exact x2,f2⟩
  ·intro j r2 g2 hj;rw [htx] at hj
   by_cases e:i=j
   ·subst e;rw [P9 rfl] at hj;simp at hj;obtain ⟨rfl,rfl⟩:=hj;exact ⟨t,ht,hc,hru,hs⟩
   ·rw [Q9 e] at hj;exact h.tx j r2 g2 hj
  ·show (s.qe.set _ _).length<=s.steps;simpa using h.st
theorem Yi.step (h:Yi s) (ht:t < s.qi.length) (v:Nat):Yi (s.step t v)/\(s.step t v).qi.length=s.qi.length:=by
 unfold Zn.step;cases hf:(s.th t).fin with
 |true=>rw [P9 rfl];exact ⟨h,J⟩
 |false=>
  rw [Q9 (by simp)];obtain ⟨hr,hl,i,hc⟩:=h.ready ht hf;have ht':t < (s.ready t).qi.length:=by rw [hl];exact ht
  obtain ⟨raw,g,hx,_⟩:=hr.cur t i ht' hc;rw [Ux hc hx];refine ⟨hr.zc ht' hc hx v,?_⟩;unfold Zn.zc;split <;> simp [hl]
end
section
variable {w0 w w' w1:W} {lab lab' lab1:Nat->Nat} {P P':EP} {s s':Zn} {t:Nat} {S qJ:List Nat}
structure Bb (w:W) (lab:Nat->Nat) (w':W) (lab':Nat->Nat):Prop where
 size:w.heap.size<=w'.heap.size
 own:∀ n,n < w.heap.size->lab n=0->lab' n=0
 blk:∀ n,n < w.heap.size->lab n=0->w'.heap[n]? =w.heap[n]?
 os:w'.os=w.os
 tape:w'.tape=w.tape
 output:w'.output=w.output
theorem Bb.refl (w:W) (lab:Nat->Nat):Bb w lab w lab:=⟨Nat.le_refl _,λ _ _ h=>h,λ _ _ _=>J,J,J,J⟩
theorem Bb.trans (h:Bb w lab w1 lab1) (k:Bb w1 lab1 w' lab'):Bb w lab w' lab':=
 ⟨Nat.le_trans h.size k.size,λ n hn h0=>k.own n (Nat.lt_of_lt_of_le hn h.size) (h.own n hn h0),λ n hn h0=>(k.blk n (Nat.lt_of_lt_of_le hn h.size) (h.own n hn h0)).trans (h.blk n hn h0),k.os.trans h.os,k.tape.trans h.tape,k.output.trans h.output⟩
theorem Bb.of (m:Ze S w w') (hs:Gl S w lab qJ) (h0:0∉qJ) (ha:Ji w lab lab'):Bb w lab w' lab':=
 ⟨m.size,λ n hn h=>(ha n hn).trans h,λ n hn h=>m.block n hn (λ hm=>h0 (by rw [<-h];exact hs n hm hn)),m.os,m.tape,m.output⟩
theorem Bb.quiet (m:Ze [] w w') (ha:Ji w lab lab'):Bb w lab w' lab':=Bb.of (qJ:=[]) m (by intro n hn;simp at hn) (by simp) ha
structure P3 (P P':EP):Prop where
 x:P'.x=P.x
 a:P'.a=P.a
 b:P'.b=P.b
 r:P'.r=P.r
 kt:P'.kt=P.kt
theorem P3.refl (P:EP):P3 P P:=⟨J,J,J,J,J⟩
theorem P3.trans {P P' P'':EP} (h:P3 P P') (k:P3 P' P''):P3 P P'':=⟨k.x.trans h.x,k.a.trans h.a,k.b.trans h.b,k.r.trans h.r,k.kt.trans h.kt⟩
def Jk (w0 w:W) (lab:Nat->Nat) (P:EP) (s':Zn) (w':W):Prop:=∃ lab' P',Ys w0 w' lab' P' s'/\P3 P P'/\Bb w lab w' lab'
theorem Nn {i n z:Nat} {ty:TypeId} {xs:List Value} {v:Value} (h:Uj w lab i ty z xs n v) (hn:0 < n):∃ g cap,v=L (I ⟨g,0,O⟩) n cap/\g < w.heap.size/\lab g=i:=by
 obtain ⟨g,cap,e,_⟩:=Ya h.row hn;exact ⟨g,cap,e,Yr h.row (by rw [e];rfl),h.own g (by rw [e];rfl)⟩
theorem Fl {i n z j:Nat} {ty:TypeId} {xs:List Value} {g cap:Nat} {u:Value} (h:Uj w lab i ty z xs n (L (I ⟨g,0,O⟩) n cap)) (hj:j < n * z) (hu:xs[j]? =I u):w.cell? ⟨g,j,O⟩=I u:=
 (h.row.cellAt j hj).trans hu
theorem Lu (k:Yi s) {u:Nat} (hu:u < s.qi.length) (x:Vb) (qi:List Qy) (hth:(qi.getD u Bj).cur=(s.th u).cur):Zn.zi {s with qi:=qi,qe:=s.qe++[x]} u=s.zi u:=by
 unfold Zn.zi;show (match (qi.getD u Bj).cur with|none=>O|some i=>match (s.qe++[x])[i]? with|some x=>x.g|none=>O)=_;rw [hth];cases hc:(s.th u).cur with
 |none=>rfl
 |some i=>
  obtain ⟨raw,g,hx,_⟩:=k.cur u i hu hc;simp only;rw [List.getElem?_append_left (List.getElem?_eq_some_iff.1 hx).1];rfl
theorem Hd (l:List Zu) (es:List DX) (d:Zu) (e:DX) (he:es.length=l.length):Va (l++[d]) (es++[e])=Va l es++Z9 d e:=by
 unfold Va;rw [List.zipWith_append he.symm];simp
theorem Au.nil {lab:Nat->Nat} {i:Nat} {d:Zu} (e:DX) (h1:e.va=L O 0 0) (h2:e.vr=L O 0 0) (h3:e.vw=L O 0 0) (h4:e.vo=L O 0 0) (g1:d.args=[]) (g2:d.reads=[]) (g3:d.writes=[]) (g4:d.out=[]):Au w lab i d e:=
 ⟨by rw [h1,g1];exact Uj.nil _ _,by rw [h2,g2];exact Uj.nil _ _,by rw [h3,g3];exact Uj.nil _ _,by rw [h4,g4];exact Uj.nil _ _⟩
theorem Vx {α:Type} {l:List α} {x d:α} {n:Nat} (h:n < l.length):(l++[x]).getD n d=l.getD n d:=by
 simp [G_,List.getElem?_append_left h]
theorem Je {α:Type} {l:List α} {x d:α}:(l++[x]).getD l.length d=x:=by
 simp [G_]
theorem begin_c (h:Ys w0 w lab P s) (k:Yi s) (ht:t < s.qi.length) (hc:(s.th t).cur=O) (hb:(s.th t).begun < (s.th t).calls.length) (hnd:s.qe.length < 1000000000):
  Calls N 45 #[Xy P.x,U Y t] w λ e w'=>e=R_ (.tuple #[])/\Jk w0 w lab P (s.begin t) w':=by
 obtain ⟨hp0,hp1,hal⟩:=k.yi ht hb;obtain ⟨pvs,pl,prow,pcode⟩:=h.prog;obtain ⟨pg,pc,hvp,pgl,_⟩:=Nn prow (by omega);obtain ⟨tg,tc,hvt,_,tgl,hT⟩:=h.row;obtain ⟨cvs,cl,crow,cargs⟩:=h.call t ht;obtain ⟨cg,cc,hvc,cgl,_⟩:=Nn crow (by omega);have hgo:P.gv t=.nilIface:=by
  have:=h.go t ht;have e:s.zi t=O:=by unfold Zn.zi;rw [hc]
  rw [e] at this;exact this
 have qW:=h.hx;have K:=h.jn t ht;unfold Gg at qW;unfold Qp at K;rw [hvp,hvt] at qW;rw [hvc,hgo] at K;rw [hvp] at prow;rw [hvc] at crow;have hpn:(s.call t).1.toNat < s.progs.length:=by omega
 obtain ⟨gd,pa1⟩:=progV_at (l:=s.progs) pl hpn;obtain ⟨ca0,ca1⟩:=callV_at (l:=(s.th t).calls) cl hb;have P0:=Fl prow (by omega) gd;have P1:=Fl prow (by omega) pa1;have C0:=Fl crow (by omega) ca0;have C1:=Fl crow (by omega) ca1;have hcode:=pcode _ hpn;have hargs:=cargs _ hb;obtain ⟨ca,ccap,qn⟩:=Zo hcode.row;obtain ⟨aa,ac,eargs⟩:=Zo hargs.row;rw [qn] at P1 hcode;rw [eargs] at C1 hargs;obtain ⟨f,ro,R⟩:=h.j4;have hpl:=k.prog _ (Gx (d:=(0,[])) hpn);have hnl:=(k.begun t ht).2;have ht1:(t:Int) < s.c1:=by rw [k.nt];omega
 have hdl:(s.qe.map (·.raw)).length=s.qe.length:=by simp
 have hvd:=h.ze.row.row;rw [hdl] at hvd;have hown:∀ g,P.vd.ownBlock=I g->lab g=5:=h.ze.row.own;have hdx:P.vd.ownBlock≠I P.x:=λ e=>by have:=hown _ e;rw [h.lx] at this;omega
 have hdk:P.vd.ownBlock≠I (P.kt t):=λ e=>by have:=hown _ e;rw [h.lt t ht] at this;omega
 refine (begin_t (by omega) (by simpa using ht) hb hp0 hpn qW (by rw [Int.toNat_natCast];exact hT t ht) tgl K C0 C1 cgl R P0 P1 pgl k.cf ht1 h.mem hcode.row hpl hargs.row hal hvd hnd hnl hdx hdk (g:=s.xb t) J).mono ?_;rintro e w' ⟨rfl,v,vd',HG,HK,HX,HR,HO,HM⟩;refine ⟨J,?_⟩;obtain ⟨lab',hlab⟩:∃ lab':Nat->Nat,lab'=λ n=>if n < w.heap.size then lab n else if vd'.ownBlock=I n then 5 else 30+t:=⟨_,J⟩
 have ha:Ji w lab lab':=λ n hn=>by rw [hlab];exact P9 hn
 have hnew:∀ n,w.heap.size<=n->vd'.ownBlock≠I n->lab' n=30+t:=λ n hn hv=>by rw [hlab];simp only;rw [Q9 (by omega),Q9 hv]
 have hvown:∀ g,vd'.ownBlock=I g->lab' g=5:=λ g hg=>by
  rw [hlab];simp only;split
  ·rename_i hl;rcases HO g hg with e|e
   ·exact hown g e
   ·omega
  ·first|rfl|rw [P9 hg]
 have hs:Gl (P.kt t :: P.x :: P.vd.ownBlock.toList) w lab [10+t,1,5]:=by
  intro n hn _;simp only [List.mem_cons,Option.mem_toList] at hn;rcases hn with rfl|rfl|hn
  ·rw [h.lt t ht];simp
  ·rw [h.lx];simp
  ·rw [hown n hn];simp
 have KK:=h.jo HM hs (by intro q;simp at q;omega) (by intro q;simp at q;omega) (by intro q;simp at q;omega) ha;have hty:∀ n,vd'.ownBlock=I n->Xt w' n=I 50:=λ n hn=>Yf HR hn;obtain ⟨P',hP⟩:∃ P':EP,P'={P with vd:=vd',gv:=λ u=>if u=t then v else P.gv u,ai:=λ u=>if u=t then (s.qe.length:Int) else P.ai u,es:=P.es++[{Qm with fr:=ro}]}:=⟨_,J⟩;have hth:∀ u,(s.begin t).th u=if u=t then {s.th t with cur:=I s.qe.length,begun:=(s.th t).begun+1} else s.th u:=λ u=>Hm _ _ _ _ ht
 have hl:(s.begin t).qi.length=s.qi.length:=by simp [Zn.begin]
 have hx:(s.begin t).qe=s.qe++[⟨Xj t (s.th t).begun (s.call t).1 s.steps,I (s.xb t)⟩]:=J;refine ⟨lab',P',?_,⟨by rw [hP],by rw [hP],by rw [hP],by rw [hP],by rw [hP]⟩,Bb.of HM hs (by intro q;simp at q;omega) ha⟩;subst hP;refine {hx:=?_,mem:=KK.mem (by intro q;simp at q;omega),j4:=KK.j4 (by intro q;simp at q;omega),prog:=KK.prog,zu:=?_,jn:=?_,lt:=?_,call:=?_,cur:=?_,go:=?_,ze:=?_,n1:=by rw [hl];exact h.n1,n8:=by rw [hl];exact h.n8,nt:=h.nt.trans (by rw [hl]),lx:=KK.lx,la:=KK.la,lb:=KK.lb,lr:=KK.lr,jl:=KK.jl,fr:=KK.fr}
 ·rw [HX];unfold Gg;simp only;rw [hvp,hvt];rfl
 ·rw [hl];exact KK.zu
 ·intro u hu;rw [hl] at hu;rw [hth]
  by_cases e:u=t
  ·subst e;simp only [if_true];rw [HK];unfold Qp;rw [hvc];rfl
  ·simp only [Q9 e];exact KK.jn u hu (by intro q;simp at q;omega)
 ·intro u hu;rw [hl] at hu;exact KK.lt u hu
 ·intro u hu;rw [hl] at hu;rw [hth];have:=KK.call u hu
  by_cases e:u=t
  ·subst e;rw [P9 rfl];exact this
  ·rw [Q9 e];exact this
 ·intro u i hu hi;rw [hl] at hu;rw [hth] at hi;show (if u=t then (s.qe.length:Int) else P.ai u)=i
  by_cases e:u=t
  ·subst e;rw [P9 rfl] at hi ⊢
   simp at hi;rw [hi]
  ·rw [Q9 e] at hi ⊢
   exact h.cur u i hu hi
 ·intro u hu;rw [hl] at hu;show Mq w' lab' (30+u) (if u=t then v else P.gv u) ((s.begin t).zi u)
  by_cases e:u=t
  ·subst e;have e2:(s.begin u).zi u=I (s.xb u):=by
    unfold Zn.zi;rw [hth,P9 rfl,hx];simp
   rw [e2,P9 rfl];cases hg:s.xb u with
   |wr x=>
    rw [hg] at HG;obtain ⟨q,q1,q2,q3,q4⟩:=HG;have hx1:x.part=1:=by
     unfold Zn.xb at hg;split at hg
     ·rw [<-Qt.wr.inj hg];rfl
     ·cases hg
    refine ⟨q,q1,q2,λ _=>by rw [q3,hx1],λ n hn=>hnew n (q4 n hn) (λ hv=>?_)⟩;have:=q2.ku hn;rw [hty n hv] at this;exact absurd this (by decide)
   |rd x=>
    rw [hg] at HG;obtain ⟨q,q1,q2,q4⟩:=HG;refine ⟨q,q1,q2,λ n hn=>hnew n (q4 n hn) (λ hv=>?_)⟩;have:=q2.ku hn;rw [hty n hv] at this;exact absurd this (by decide)
  ·rw [Q9 e];have e2:(s.begin t).zi u=s.zi u:=Lu k hu _ _ (by
    have:=hth u;rw [Q9 e] at this;exact congrArg Qy.cur this)
   rw [e2];exact KK.go u hu (by intro q;have:=h.n8;simp at q;omega)
 ·rw [hx,List.map_append,List.map_singleton];have hle:=h.ze.len;refine ⟨by simp [hle],⟨?_,hvown⟩,?_⟩
  ·rw [Hd _ _ _ _ hle];have:(List.map (λ x=>x.raw) s.qe++[Xj t (s.th t).begun (s.call t).1 s.steps]).length=s.qe.length+1:=by simp
   rw [this];exact HR
  ·intro n hn;have hn':n < s.qe.length\/n=s.qe.length:=by simp at hn;omega
   rcases hn' with hn'|rfl
   ·rw [Vx (by simpa using hn'),Vx (by rw [hle];simpa using hn')];exact (h.ze.rows n (by simpa using hn')).carry HM hs (by intro q;simp at q;omega) ha
   ·have e1:(List.map (λ x=>x.raw) s.qe++[Xj t (s.th t).begun (s.call t).1 s.steps]).getD s.qe.length Qi=Xj t (s.th t).begun (s.call t).1 s.steps:=by
     simp
    have e2:(P.es++[{Qm with fr:=ro}]).getD s.qe.length Qm={Qm with fr:=ro}:=by
     have:=Je (l:=P.es) (x:={Qm with fr:=ro}) (d:=Qm);rw [hle,hdl] at this;exact this
    rw [e1,e2];exact Au.nil _ J J J J J J J J
end
end Go.Proofs.YtkhonmhnchdpkaaGreat
