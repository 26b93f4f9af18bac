/- A part of the proof; no condition. -/
import Derived.Test.YtkhonmhnchdpkaaGreatP26
set_option maxRecDepth 100000
set_option maxHeartbeats 40000000
namespace Go.Proofs.YtkhonmhnchdpkaaGreat
open Go.RowKit _root_.Go.Proofs.Tryz
section
def Zh.wd (s:Zh) (i:Nat):Int:=s.ws.getD i 0
theorem Zh.acc_op {s:Zh} {i:Int} (h0:0<=i) (h1:i < s.ws.length):s.opened.acc i=0:=by
 unfold Zh.acc Zh.opened;simp;omega
theorem Zh.got_op {s:Zh} {i:Int} (h0:0<=i) (h1:i < s.ws.length):s.opened.got i=s.wd i.toNat:=by
 unfold Zh.got;rw [if_pos (Zh.acc_op h0 h1)];rfl
theorem Zh.load_ws (s:Zh) (i:Int):(s.load i).ws=s.ws:=by
 unfold Zh.load;split <;> rfl
theorem Zh.store_len (s:Zh) (i v:Int):(s.store i v).ws.length=s.ws.length:=by
 unfold Zh.store;split
 ·simp [Zh.put,Zh.touch]
 ·rfl
theorem Zh.add_len (s:Zh) (i v:Int):(s.add i v).ws.length=s.ws.length:=by
 unfold Zh.add;split
 ·simp [Zh.put,Zh.touch]
 ·rfl
theorem Zh.put_wd (s:Zh) (i:Int) (v:Int) (j:Nat):(s.put i v).wd j=if i.toNat=j/\j < s.ws.length then v else s.wd j:=by
 unfold Zh.put Zh.wd;simp only [List.getD_eq_getElem?_getD,List.getElem?_set]
 grind
theorem Zh.store_wd {s:Zh} {i:Int} (h0:0<=i) (h1:i < s.ws.length) (v:Int) (j:Nat):(s.opened.store i v).wd j=if i.toNat=j then v else s.wd j:=by
 unfold Zh.store;rw [if_pos (Zh.acc_op h0 h1),Zh.put_wd];have e:s.opened.touch.ws=s.ws:=rfl;have e2:s.opened.touch.wd j=s.wd j:=rfl;rw [e,e2]
 grind
theorem Zh.store_out {s:Zh} {i:Int} (v:Int) {j:Nat} (h:i.toNat≠j):(s.store i v).wd j=s.wd j:=by
 unfold Zh.store;split
 ·rw [Zh.put_wd,if_neg (by grind)];rfl
 ·rfl
theorem Zh.add_wd {s:Zh} {i:Int} (h0:0<=i) (h1:i < s.ws.length) (v:Int) (j:Nat):(s.opened.add i v).wd j=if i.toNat=j then IntKind.u64.wrap (s.wd i.toNat+v) else s.wd j:=by
 unfold Zh.add;rw [if_pos (Zh.acc_op h0 h1),Zh.put_wd];have e:s.opened.touch.ws=s.ws:=rfl;have e2:s.opened.touch.wd j=s.wd j:=rfl;have e3:s.opened.at i=s.wd i.toNat:=rfl;rw [e,e2,e3]
 grind
theorem Zh.cellM_ws (s:Zh) (p4 c k:Int):(s.cellM p4 c k).ws=s.ws:=by
 unfold Zh.cellM;split
 ·exact Zh.load_ws _ _
 ·rfl
theorem Zh.cellS_len (s:Zh) (p4 c k v:Int):(s.cellS p4 c k v).ws.length=s.ws.length:=by
 unfold Zh.cellS;split
 ·exact Zh.store_len _ _ _
 ·rfl
theorem Zh.cellS_low (s:Zh) {p4 c k:Int} (v:Int) {j:Nat} (hp:(j:Int) < p4) (hk:0<=k):(s.cellS p4 c k v).wd j=s.wd j:=by
 unfold Zh.cellS;split
 ·rename_i h;obtain ⟨a1,a2,a3,a4⟩:=Ve h;exact Zh.store_out _ (by omega)
 ·rfl
theorem Bt {n:Int} (h0:0<=n) (h1:n < 1000000000000):u64 n=n:=by
 unfold u64;rw [IntKind.wrap_u64];omega
theorem Nk {n:Int} (h0:-1000000000000 < n) (h1:n < 1000000000000):wrap64 n=n:=IntWalk.wrap64_in n ⟨by omega,by omega⟩
end
section
structure Je (s:Zl) (r:Zl×Xg):Prop where
 c0:r.1.c0=s.c0
 c1:r.1.c1=s.c1
 c2:r.1.c2=s.c2
 c3:r.1.c3=s.c3
 tag:r.1.tag=s.tag
 code:r.1.code=s.code
 args:r.1.args=s.args
 most:r.1.buf.most=s.buf.most
 kind:r.2.kind=0\/r.2.kind=1\/r.2.kind=2\/r.2.kind=3\/r.2.kind=4
 k0:r.2.kind=0->r.1.buf=s.buf/\r.1.reads=s.reads
 k1:r.2.kind=1->r.1.waits=true/\r.1.cell=r.2.cell/\(0<=r.2.cell/\r.2.cell < s.c0)/\s.buf.known r.2.cell=false/\r.1.buf=s.buf/\r.1.reads=s.reads
 k2:r.2.kind=2->s.buf.known r.2.cell=true/\r.1.buf=s.buf/\r.1.reads=s.reads++[(r.2.cell,s.buf.val r.2.cell)]
 k3:r.2.kind=3->s.tag=2/\(0<=r.2.cell/\r.2.cell < s.c0)/\r.1.buf=s.buf.put r.2.cell r.2.x/\r.2.first=(!s.buf.known r.2.cell)/\r.1.reads=s.reads/\¬ (s.buf.known r.2.cell=false/\(s.buf.order.length:Int)=s.buf.most)
 k4:r.2.kind=4->r.1.how≠0/\r.1.buf=s.buf/\r.1.reads=s.reads
 wt:r.2.kind≠1->r.1.waits=false
 how:r.2.kind≠4->r.1.how=0
variable {s:Zl} {r:Zl×Xg} {v:Nat} {i:Xf}
theorem read_m (hw:s.waits=false) (hh:s.how=0) (he:s.readE=.ok r):Je s r:=by
 unfold Zl.readE at he;split at he
 ·cases he
 ·rename_i c hc;have hb:=Nw hc;split at he
  ·rename_i hk;simp only [Except.ok.injEq] at he;subst he;exact ⟨rfl,rfl,rfl,rfl,rfl,rfl,rfl,rfl,.inr (.inr (.inl rfl)),λ h=>by simp at h,λ h=>by simp at h,λ _=>⟨hk,rfl,rfl⟩,λ h=>by simp at h,λ h=>by simp at h,λ _=>hw,λ _=>hh⟩
  ·rename_i hk;simp only [Except.ok.injEq] at he;subst he;exact ⟨rfl,rfl,rfl,rfl,rfl,rfl,rfl,rfl,.inr (.inl rfl),λ h=>by simp at h,λ _=>⟨rfl,rfl,hb,by simpa using hk,rfl,rfl⟩,λ h=>by simp at h,λ h=>by simp at h,λ h=>by simp at h,λ h=>absurd rfl h,λ _=>hh⟩
theorem write_m (hw:s.waits=false) (hh:s.how=0) (he:s.writeE=.ok r):Je s r:=by
 unfold Zl.writeE at he;split at he
 ·cases he
 ·rename_i ht;split at he
  ·cases he
  ·rename_i c hc;have hb:=Nw hc;split at he
   ·cases he
   ·rename_i hf;simp only [Except.ok.injEq] at he;subst he;exact ⟨rfl,rfl,rfl,rfl,rfl,rfl,rfl,rfl,.inr (.inr (.inr (.inl rfl))),λ h=>by simp at h,λ h=>by simp at h,λ h=>by simp at h,λ _=>⟨by simpa using ht,hb,rfl,rfl,rfl,hf⟩,λ h=>by simp at h,λ _=>hw,λ _=>hh⟩
theorem Je.q0 {t:Zl} (h:∃ (l:List Nat) (k:List Int) (p:Int) (f:Nat->Nat) (o:List Nat),t={s with nums:=l,calls:=k,place:=p,locals:=f,out:=o}) (hw:s.waits=false) (hh:s.how=0):Je s (t,Zz 0):=by
 obtain ⟨l,k,p,f,o,rfl⟩:=h;exact ⟨rfl,rfl,rfl,rfl,rfl,rfl,rfl,rfl,.inl rfl,λ _=>⟨rfl,rfl⟩,λ h=>by simp [Zz] at h,λ h=>by simp [Zz] at h,λ h=>by simp [Zz] at h,λ h=>by simp [Zz] at h,λ _=>hw,λ _=>hh⟩
theorem Je.q4 {h c e:Int} (hn:h≠0) (hw:s.waits=false):Je s (s.ends h c e,Zz 4):=
 ⟨rfl,rfl,rfl,rfl,rfl,rfl,rfl,rfl,.inr (.inr (.inr (.inr rfl))),λ h=>by simp [Zz] at h,λ h=>by simp [Zz] at h,λ h=>by simp [Zz] at h,λ h=>by simp [Zz] at h,λ _=>⟨hn,rfl,rfl⟩,λ _=>hw,λ h=>absurd rfl h⟩
theorem reckon_f (v:Nat) (i:Xf) (s:Zl):∃ (l:List Nat) (k:List Int) (p:Int) (f:Nat->Nat) (o:List Nat),s.reckon v i={s with nums:=l,calls:=k,place:=p,locals:=f,out:=o}:=by
 unfold Zl.reckon
 by_cases h1:i.op=1
 ·rw [if_pos h1];exact ⟨_,s.calls,s.place,s.locals,s.out,rfl⟩
 rw [if_neg h1]
 by_cases h2:i.op=2
 ·rw [if_pos h2];exact ⟨_,s.calls,s.place,s.locals,s.out,rfl⟩
 rw [if_neg h2]
 by_cases h3:i.op=3
 ·rw [if_pos h3];exact ⟨_,s.calls,s.place,s.locals,s.out,rfl⟩
 rw [if_neg h3]
 by_cases h4:i.op=4
 ·rw [if_pos h4];exact ⟨_,s.calls,s.place,s.locals,s.out,rfl⟩
 rw [if_neg h4]
 by_cases h5:i.op=5
 ·rw [if_pos h5];exact ⟨_,s.calls,s.place,s.locals,s.out,rfl⟩
 rw [if_neg h5]
 by_cases h6:i.op=6
 ·rw [if_pos h6];exact ⟨_,s.calls,s.place,s.locals,s.out,rfl⟩
 rw [if_neg h6]
 by_cases h7:i.op=7
 ·rw [if_pos h7];exact ⟨_,s.calls,s.place,s.locals,s.out,rfl⟩
 rw [if_neg h7]
 by_cases h8:i.op=8
 ·rw [if_pos h8];exact ⟨_,s.calls,s.place,_,s.out,rfl⟩
 rw [if_neg h8]
 by_cases h9:i.op=9
 ·rw [if_pos h9];exact ⟨_,s.calls,s.place,s.locals,s.out,rfl⟩
 rw [if_neg h9]
 by_cases h10:i.op=10
 ·rw [if_pos h10];exact ⟨_,s.calls,s.place,s.locals,s.out,rfl⟩
 rw [if_neg h10]
 by_cases h18:i.op=18
 ·rw [if_pos h18];exact ⟨_,s.calls,s.place,s.locals,_,rfl⟩
 rw [if_neg h18];exact ⟨s.nums,s.calls,s.place,s.locals,s.out,rfl⟩
theorem do_m (hw:s.waits=false) (hh:s.how=0) (he:s.doE v i=.ok r):Je s r:=by
 unfold Zl.doE at he;split at he
 ·exact read_m hw hh he
 split at he
 ·exact write_m hw hh he
 split at he
 ·simp only [Except.ok.injEq] at he;subst he;exact .q4 (by decide) hw
 split at he
 ·simp only [Except.ok.injEq] at he;subst he;exact .q4 (by decide) hw
 split at he
 ·simp only [Except.ok.injEq] at he;subst he;exact .q0 ⟨s.nums,s.calls,_,s.locals,s.out,rfl⟩ hw hh
 split at he
 ·simp only [Except.ok.injEq] at he;subst he;exact .q0 ⟨s.nums.dropLast,s.calls,_,s.locals,s.out,rfl⟩ hw hh
 split at he
 ·simp only [Except.ok.injEq] at he;subst he;exact .q0 ⟨s.nums,_,_,s.locals,s.out,rfl⟩ hw hh
 split at he
 ·split at he
  ·simp only [Except.ok.injEq] at he;subst he;exact .q4 (by decide) hw
  ·simp only [Except.ok.injEq] at he;subst he;exact .q0 ⟨s.nums,_,_,s.locals,s.out,rfl⟩ hw hh
 ·simp only [Except.ok.injEq] at he;subst he;exact .q0 (reckon_f v i s) hw hh
theorem Bi (e:Int) (hw:s.waits=false):Je s (s.fault e):=.q4 (by decide) hw
theorem Je.of_next (h:Je s.next r):Je s r:=⟨h.c0,h.c1,h.c2,h.c3,h.tag,h.code,h.args,h.most,h.kind,h.k0,h.k1,h.k2,h.k3,h.k4,h.wt,h.how⟩
theorem go_m (hw:s.waits=false) (hh:s.how=0):Je s (s.go v):=by
 unfold Zl.go;split
 ·exact (Bi (s:=s.next) 82 hw).of_next
 ·split
  ·rename_i r he;exact (do_m (s:=s.next) hw hh he).of_next
  ·exact (Bi (s:=s.next) _ hw).of_next
theorem Qz (v:Nat) (hw:s.waits=false):Je s (s.step v):=by
 unfold Zl.step;rw [if_neg (by simp [hw])];split
 ·rename_i hh;exact ⟨rfl,rfl,rfl,rfl,rfl,rfl,rfl,rfl,.inr (.inr (.inr (.inr rfl))),λ h=>by simp [Zz] at h,λ h=>by simp [Zz] at h,λ h=>by simp [Zz] at h,λ h=>by simp [Zz] at h,λ _=>⟨hh,rfl,rfl⟩,λ _=>hw,λ h=>absurd rfl h⟩
 ·rename_i hh;have hh:s.how=0:=Classical.not_not.mp hh;split
  ·exact Bi _ hw
  split
  ·exact Bi _ hw
  split
  ·exact Bi _ hw
  ·exact go_m hw hh
structure Kz (b:Xj):Prop where
 kn:∀ c,b.known c=true↔c∈b.order
 nd:b.order.Nodup
 room:(b.order.length:Int)<=b.most
theorem Kz.nil (n:Int) (h:0<=n):Kz ⟨[],λ _=>none,n⟩:=⟨by simp [Xj.known],by simp,by simpa using h⟩
theorem Dt (b:Xj) (c:Int) (x:Nat) (d:Int):(b.put c x).known d=(decide (d=c) || b.known d):=by
 unfold Xj.known Xj.put J1
 by_cases h:d=c <;> simp [h]
theorem Qk (b:Xj) (c:Int) (x:Nat):(b.put c x).order=if b.known c=true then b.order else b.order++[c]:=rfl
theorem Kz.put {b:Xj} (h:Kz b) (c:Int) (x:Nat) (hr:¬ (b.known c=false/\(b.order.length:Int)=b.most)):Kz (b.put c x):=by
 have e:(b.put c x).most=b.most:=rfl;cases hk:b.known c with
 |true=>
  refine ⟨λ d=>?_,?_,?_⟩
  ·rw [Dt,Qk,if_pos hk,Bool.or_eq_true,decide_eq_true_eq,h.kn];constructor
   ·rintro (rfl|hd)
    ·exact (h.kn _).1 hk
    ·exact hd
   ·exact .inr
  ·rw [Qk,if_pos hk];exact h.nd
  ·rw [Qk,if_pos hk,e];exact h.room
 |false=>
  have hn:c∉b.order:=λ hm=>by rw [(h.kn c).2 hm] at hk;cases hk
  refine ⟨λ d=>?_,?_,?_⟩
  ·rw [Dt,Qk,if_neg (by simp [hk]),Bool.or_eq_true,decide_eq_true_eq,h.kn,List.mem_append,List.mem_singleton];exact or_comm
  ·rw [Qk,if_neg (by simp [hk]),List.nodup_append];exact ⟨h.nd,by simp,λ a ha b hb=>by simp at hb;subst hb;rintro rfl;exact hn ha⟩
  ·rw [Qk,if_neg (by simp [hk]),e,List.length_append];have:=h.room;have hne:(b.order.length:Int)≠b.most:=λ he=>hr ⟨hk,he⟩;simp;omega
theorem step_buf (o:Kz s.buf) (v:Nat) (hw:s.waits=false):Kz (s.step v).1.buf:=by
 have m:=Qz v hw;rcases m.kind with h|h|h|h|h
 ·rw [(m.k0 h).1];exact o
 ·rw [(m.k1 h).2.2.2.2.1];exact o
 ·rw [(m.k2 h).2.1];exact o
 ·rw [(m.k3 h).2.2.1];exact o.put _ _ (m.k3 h).2.2.2.2.2
 ·rw [(m.k4 h).2.1];exact o
theorem Ab (v:Nat) (hw:s.waits=false):(s.step v).1.buf.order.length=s.buf.order.length+(if (s.step v).2.kind=3/\(s.step v).2.first=true then 1 else 0):=by
 have m:=Qz v hw;rcases m.kind with h|h|h|h|h
 ·rw [(m.k0 h).1,if_neg (by omega)];rfl
 ·rw [(m.k1 h).2.2.2.2.1,if_neg (by omega)];rfl
 ·rw [(m.k2 h).2.1,if_neg (by omega)];rfl
 ·obtain ⟨_,_,e,f,_⟩:=m.k3 h;rw [e,f,Qk];cases hk:s.buf.known (s.step v).2.cell <;> simp [h]
 ·rw [(m.k4 h).2.1,if_neg (by omega)];rfl
end
section
structure Bs (c0 c1:Int):Prop where
 a0:1<=c0
 a1:c0<=256
 b0:1<=c1
 b1:c1<=8
def Zh.cw (s:Zh) (c1 c j:Int):Int:=s.wd (Z4 c1+3 * c+j).toNat
variable {c0 c1 c j t:Int} {s:Zh} {x:Z2} {y:Yg} {v:Nat}
section
theorem Lw (k:Bs c0 c1) (hl:(s.ws.length:Int)=Zw c0 c1) (h0:0<=c) (h1:c < c0) (j0:0<=j) (j2:j<=2):s.opened.cellE (Z4 c1) c j=0:=by
 obtain ⟨a0,a1,b0,b1⟩:=k;unfold Zw at hl;unfold Zh.cellE;rw [if_pos (Xi (by omega) (by omega) (by unfold Z4;omega) (by unfold Z4;omega))];exact Zh.acc_op (by unfold Z4;omega) (by unfold Z4;omega)
theorem cw_val (k:Bs c0 c1) (hl:(s.ws.length:Int)=Zw c0 c1) (h0:0<=c) (h1:c < c0) (j0:0<=j) (j2:j<=2):s.opened.cellV (Z4 c1) c j=s.cw c1 c j:=by
 obtain ⟨a0,a1,b0,b1⟩:=k;unfold Zw at hl;unfold Zh.cellV;rw [if_pos (Xi (by omega) (by omega) (by unfold Z4;omega) (by unfold Z4;omega))];exact Zh.got_op (by unfold Z4;omega) (by unfold Z4;omega)
theorem cw_now (k:Bs c0 c1) (hl:(s.ws.length:Int)=Zw c0 c1) (h0:0<=c) (h1:c < c0):s.opened.nowV (Z4 c1) c=Zt (s.cw c1 c 1).toNat:=by
 unfold Zh.nowV;rw [if_pos (Lw k hl h0 h1 (by omega) (by omega)),cw_val k hl h0 h1 (by omega) (by omega)]
theorem cw_set (k:Bs c0 c1) (hl:(s.ws.length:Int)=Zw c0 c1) (h0:0<=c) (h1:c < c0) (j0:0<=j) (j2:j<=2) (u:Int) (n:Nat):(s.opened.cellS (Z4 c1) c j u).wd n=if (Z4 c1+3 * c+j).toNat=n then u else s.wd n:=by
 obtain ⟨a0,a1,b0,b1⟩:=k;unfold Zw at hl;unfold Zh.cellS;rw [if_pos (Xi (by omega) (by omega) (by unfold Z4;omega) (by unfold Z4;omega))];exact Zh.store_wd (by unfold Z4;omega) (by unfold Z4;omega) u n
end
structure Jz (c0 c1:Int) (x:Z2):Prop where
 k0:x.c0=c0
 k1:x.c1=c1
 p1:1<=x.part
 p8:x.part<=8
 tag:x.tag=2
 mt:x.m.tag=2
 mc:x.m.c0=c0
 mo:Yl x.m
 wt:x.m.waits=false
 buf:Kz x.m.buf
 most:x.m.buf.most<=32
 bc:∀ c∈x.m.buf.order,0<=c/\c < c0
 was:x.was.length=x.m.buf.order.length
 scan:x.part=5->∃ nx po,0<=nx/\nx < c1/\x.scan=some ⟨0,1,2,3,Z4 c1,Zw c0 c1,c1,x.stamp,nx,po⟩
 wr:x.part=6->x.written < x.was.length/\∃ n,0<=n/\n < 3/\x.wr={wrOf c0 c1 (x.m.buf.all.getD x.written (0,0)).1 (x.was.getD x.written 0) (u64 (x.stamp+1)) (x.m.buf.all.getD x.written (0,0)).2 with n:=n}
 nb:x.part≠6->x.back=none
 num:x.part<=7->x.number=0
 wn:x.part<=5->x.written=0
 low:x.part<=3->x.m.reads=[]/\x.m.buf.order=[]/\x.m.out=[]
 how5:5<=x.part->x.part<=7->x.m.how=1
 how8:x.part=8->x.m.how≠0
 ar:x.args.length<=8
theorem Jz.cell (h:Jz c0 c1 x) (hp:x.part=6):0<=(x.m.buf.all.getD x.written (0,0)).1/\(x.m.buf.all.getD x.written (0,0)).1 < c0:=by
 have h1:=(h.wr hp).1;rw [h.was] at h1;have hm:(x.m.buf.all.getD x.written (0,0)).1∈x.m.buf.order:=by
  unfold Xj.all;simp [List.getD_eq_getElem?_getD,h1]
 exact h.bc _ hm
section
theorem Uv (k:Bs c0 c1) (hl:(s.ws.length:Int)=Zw c0 c1) (n:Int) (_:0<=n) (h1:n < 3+c1):n < s.ws.length:=by
 obtain ⟨a0,a1,b0,b1⟩:=k;unfold Zw at hl;omega
theorem Rk (k:Bs c0 c1) (hl:(s.ws.length:Int)=Zw c0 c1) (hp:x.part=1):x.step s.opened v=({x with ticket:=s.wd 0,part:=2},s.opened.add 0 1):=by
 unfold Z2.step;rw [if_pos hp,Zh.got_op (by omega) (Uv k hl 0 (by omega) (by have:=k.b0;omega))];rfl
theorem Ri (k:Bs c0 c1) (hl:(s.ws.length:Int)=Zw c0 c1) (hp:x.part=2):x.step s.opened v=({x with part:=if s.wd 1=x.ticket then 3 else 2},s.opened.load 1):=by
 have hlt:=Uv k hl 1 (by omega) (by have:=k.b0;omega);unfold Z2.step;rw [if_neg (by omega),if_pos hp];unfold Zh.look;rw [if_pos (Zh.acc_op (by omega) hlt),Zh.got_op (by omega) hlt];simp
theorem Rh (k:Bs c0 c1) (hl:(s.ws.length:Int)=Zw c0 c1) (hp:x.part=3):x.step s.opened v=({x with stamp:=s.wd 2,part:=4},s.opened.load 2):=by
 unfold Z2.step;rw [if_neg (by omega),if_neg (by omega),if_pos hp,Zh.got_op (by omega) (Uv k hl 2 (by omega) (by have:=k.b0;omega))];rfl
end
theorem w4_eq (hp:x.part=4):x.step s.opened v=x.runs s.opened v:=by
 unfold Z2.step;rw [if_neg (by omega),if_neg (by omega),if_neg (by omega),if_pos hp]
theorem w5_eq (hp:x.part=5):x.step s.opened v=x.scans s.opened:=by
 unfold Z2.step;rw [if_neg (by omega),if_neg (by omega),if_neg (by omega),if_neg (by omega),if_pos hp]
theorem w6_eq (hp:x.part=6):x.step s.opened v=x.writes s.opened:=by
 unfold Z2.step;rw [if_neg (by omega),if_neg (by omega),if_neg (by omega),if_neg (by omega),if_neg (by omega),if_pos hp]
theorem Rg (hp:x.part=7):x.step s.opened v=({x with number:=wrap64 (u64 (x.stamp+1)),part:=8},s.opened.store 2 (u64 (x.stamp+1))):=by
 unfold Z2.step;rw [if_neg (by omega),if_neg (by omega),if_neg (by omega),if_neg (by omega),if_neg (by omega),if_neg (by omega),if_pos hp]
theorem Rf (hp:x.part=8):x.step s.opened v=({x with part:=9},s.opened.store 1 (u64 (x.ticket+1))):=by
 unfold Z2.step;rw [if_neg (by omega),if_neg (by omega),if_neg (by omega),if_neg (by omega),if_neg (by omega),if_neg (by omega),if_neg (by omega)]
inductive Ran (x:Z2) (s:Zh) (v:Nat) (r:Z2×Zh):Prop where
 |quiet (hk:(x.m.step v).2.kind=0\/(x.m.step v).2.kind=2\/((x.m.step v).2.kind=3/\(x.m.step v).2.first=false)) (e:r=({x with m:=(x.m.step v).1},s.opened))
 |read (hk:(x.m.step v).2.kind=1) (e:r=({x with m:=(x.m.step v).1.give (Zt (s.cw x.c1 (x.m.step v).2.cell 1).toNat)},s.opened.cellM (Z4 x.c1) (x.m.step v).2.cell 1))
 |write (hk:(x.m.step v).2.kind=3) (hf:(x.m.step v).2.first=true) (e:r=({x with m:=(x.m.step v).1,was:=x.was++[Zt (s.cw x.c1 (x.m.step v).2.cell 1).toNat]},s.opened.cellM (Z4 x.c1) (x.m.step v).2.cell 1))
 |end' (hk:(x.m.step v).2.kind=4) (hh:(x.m.step v).1.how=1) (e:r=({x with m:=(x.m.step v).1,scan:=some (Gf x.c0 x.c1 x.stamp),part:=5},s.opened))
 |stop (hk:(x.m.step v).2.kind=4) (hh:(x.m.step v).1.how≠1) (e:r=({x with m:=(x.m.step v).1,part:=8},s.opened))
section
theorem No (k:Bs c0 c1) (hl:(s.ws.length:Int)=Zw c0 c1) (h:Jz c0 c1 x) (hp:x.part=4) (v:Nat):Ran x s v (x.step s.opened v):=by
 rw [w4_eq hp];have m:=Qz v h.wt;unfold Z2.runs;simp only
 by_cases h1:(x.m.step v).2.kind=1
 ·rw [if_pos h1];obtain ⟨_,_,⟨c0',c1'⟩,_⟩:=m.k1 h1;refine .read h1 ?_;rw [h.k1,<-cw_now k hl c0' (by rw [<-h.mc];exact c1')]
 ·rw [if_neg h1]
  by_cases h3:(x.m.step v).2.kind=3/\(x.m.step v).2.first=true
  ·rw [if_pos h3];obtain ⟨_,⟨c0',c1'⟩,_⟩:=m.k3 h3.1;refine .write h3.1 h3.2 ?_;rw [h.k1,<-cw_now k hl c0' (by rw [<-h.mc];exact c1')]
  ·rw [if_neg h3]
   by_cases h4:(x.m.step v).2.kind=4
   ·by_cases h5:(x.m.step v).1.how=1
    ·rw [if_pos ⟨h4,h5⟩];exact .end' h4 h5 rfl
    ·rw [if_neg (by omega),if_pos h4];exact .stop h4 h5 rfl
   ·rw [if_neg (by omega),if_neg h4];refine .quiet ?_ rfl;rcases m.kind with q|q|q|q|q
    ·exact .inl q
    ·exact absurd q h1
    ·exact .inr (.inl q)
    ·refine .inr (.inr ⟨q,?_⟩);cases hf:(x.m.step v).2.first with
     |false=>rfl
     |true=>exact absurd ⟨q,hf⟩ h3
    ·exact absurd q h4
theorem Nn (k:Bs c0 c1) (hl:(s.ws.length:Int)=Zw c0 c1) (h:Jz c0 c1 x) (hp:x.part=5):∃ nx po,0<=nx/\nx < c1/\x.scan=some ⟨0,1,2,3,Z4 c1,Zw c0 c1,c1,x.stamp,nx,po⟩/\(x.step s.opened v).2.ws=s.ws/\
  ((¬ (s.wd (3+nx).toNat=0\/x.stamp < s.wd (3+nx).toNat)/\(x.step s.opened v).1={x with scan:=some ⟨0,1,2,3,Z4 c1,Zw c0 c1,c1,x.stamp,nx,wrap64 (po+1)⟩})\/
   ((s.wd (3+nx).toNat=0\/x.stamp < s.wd (3+nx).toNat)/\nx+1 < c1/\(x.step s.opened v).1={x with scan:=some ⟨0,1,2,3,Z4 c1,Zw c0 c1,c1,x.stamp,nx+1,po⟩})\/
   ((s.wd (3+nx).toNat=0\/x.stamp < s.wd (3+nx).toNat)/\nx+1=c1/\(x.step s.opened v).1={x with scan:=some ⟨0,1,2,3,Z4 c1,Zw c0 c1,c1,x.stamp,nx+1,po⟩,part:=if 0 < x.was.length then 6 else 7})):=by
 obtain ⟨nx,po,h0,h1,e⟩:=h.scan hp;have hlt:=Uv k hl (3+nx) (by omega) (by omega);have b0:=k.b0;have b1:=k.b1;have hpl:Yw 3 nx=0:=J3 h0 (by omega) (by omega) (by omega);have hacc:=Zh.acc_op (s:=s) (i:=3+nx) (by omega) hlt;have herr:(Z3.mk 0 1 2 3 (Z4 c1) (Zw c0 c1) c1 x.stamp nx po).err s.opened=0:=by
  unfold Z3.err;simp only;rw [if_neg (by omega),if_neg (by omega)];unfold Zh.leaveE;rw [if_pos hpl,hacc]
 have hpass:(Z3.mk 0 1 2 3 (Z4 c1) (Zw c0 c1) c1 x.stamp nx po).passes s.opened=decide (s.wd (3+nx).toNat=0\/x.stamp < s.wd (3+nx).toNat):=by
  unfold Z3.passes;simp only;rw [Zh.got_op (by omega) hlt]
 rw [w5_eq hp];unfold Z2.scans;rw [e];refine ⟨nx,po,h0,h1,rfl,?_,?_⟩
 ·show (Z3.mem _ _).ws=s.ws;unfold Z3.mem;simp only;rw [if_neg (by omega),if_neg (by omega),if_pos hpl,Zh.load_ws];rfl
 ·unfold Z3.next Z3.over;simp only [herr,hpass]
  by_cases hc:s.wd (3+nx).toNat=0\/x.stamp < s.wd (3+nx).toNat
  ·right
   by_cases hn:nx+1=c1
   ·right;refine ⟨hc,hn,?_⟩;simp [hc,hn]
   ·left;refine ⟨hc,by omega,?_⟩;simp [hc,hn,hp]
  ·left;refine ⟨hc,?_⟩;simp [hc,hp]
end
end
section
variable {c0 c1 c j t:Int} {s:Zh} {x:Z2} {y:Yg} {v:Nat}
def Z2.wr0 (x:Z2) (c0 c1:Int) (n:Int):Xu:={wrOf c0 c1 (x.m.buf.all.getD x.written (0,0)).1 (x.was.getD x.written 0) (u64 (x.stamp+1)) (x.m.buf.all.getD x.written (0,0)).2 with n:=n}
def Xr (x:Z2):Int:=(x.m.buf.all.getD x.written (0,0)).1
def Yv (n:Int):Int:=if n=0 then 2 else if n=1 then 0 else 1
def H4 (x:Z2) (n:Int):Int:=if n=0 then (Zt (x.was.getD x.written 0):Nat) else if n=1 then u64 (x.stamp+1) else (Zt (x.m.buf.all.getD x.written (0,0)).2:Nat)
theorem Jz.mach (h:Jz c0 c1 x) (v:Nat):((x.m.step v).1.c0=c0/\(x.m.step v).1.tag=2/\Yl (x.m.step v).1/\Kz (x.m.step v).1.buf/\(x.m.step v).1.buf.most<=32/\∀ c∈(x.m.step v).1.buf.order,0<=c/\c < c0):=by
 have m:=Qz v h.wt;refine ⟨m.c0.trans h.mc,m.tag.trans h.mt,Hd h.mo v,step_buf h.buf v h.wt,by rw [m.most];exact h.most,?_⟩;rcases m.kind with q|q|q|q|q
 ·rw [(m.k0 q).1];exact h.bc
 ·rw [(m.k1 q).2.2.2.2.1];exact h.bc
 ·rw [(m.k2 q).2.1];exact h.bc
 ·obtain ⟨_,hc,e,_⟩:=m.k3 q;rw [e,Qk];intro d hd;split at hd
  ·exact h.bc d hd
  ·rw [List.mem_append,List.mem_singleton] at hd;rcases hd with hd|rfl
   ·exact h.bc d hd
   ·rw [<-h.mc];exact hc
 ·rw [(m.k4 q).2.1];exact h.bc
section
theorem Nm (k:Bs c0 c1) (hl:(s.ws.length:Int)=Zw c0 c1) (h:Jz c0 c1 x) (hp:x.part=6):∃ n,0<=n/\n < 3/\x.wr=x.wr0 c0 c1 n/\(x.step s.opened v).2=s.opened.cellS (Z4 c1) (Xr x) (Yv n) (H4 x n)/\
  ((n < 2/\(x.step s.opened v).1={x with back:=some (x.wr0 c0 c1 (n+1))})\/
   (n=2/\x.written+1 < x.was.length/\(x.step s.opened v).1={x with back:=none,written:=x.written+1})\/
   (n=2/\x.written+1=x.was.length/\(x.step s.opened v).1={x with back:=none,written:=x.written+1,part:=7})):=by
 obtain ⟨hlt,n,h0,h3,e⟩:=h.wr hp;have e:x.wr=x.wr0 c0 c1 n:=e;obtain ⟨q0,q1⟩:=h.cell hp;have hw:(x.wr0 c0 c1 n).which=Yv n:=rfl;have hww:0<=Yv n/\Yv n<=2:=by unfold Yv;split <;> (try split) <;> omega
 have herr:(x.wr0 c0 c1 n).err s.opened=0:=by
  unfold Xu.err;rw [if_neg (by show n≠3;omega)];exact Lw k hl q0 q1 hww.1 hww.2
 have hmem:(x.wr0 c0 c1 n).mem s.opened=s.opened.cellS (Z4 c1) (Xr x) (Yv n) (H4 x n):=by
  unfold Xu.mem;rw [if_neg (by show n≠3;omega)];rfl
 have hnext:(x.wr0 c0 c1 n).next s.opened=x.wr0 c0 c1 (n+1):=by
  unfold Xu.next;rw [if_pos herr];rfl
 have hover:(x.wr0 c0 c1 n).over s.opened=(n+1==3):=by
  unfold Xu.over;rw [if_pos herr];rfl
 rw [w6_eq hp];unfold Z2.writes;refine ⟨n,h0,h3,e,by simp only [e];exact hmem,?_⟩;simp only [e];unfold Z2.wrote;rw [hover,hnext]
 by_cases hn:n < 2
 ·left;refine ⟨hn,?_⟩;rw [if_neg (by simp;omega)];unfold Z2.ended;rw [if_neg (by show ¬ (x.written=x.was.length);omega)]
 ·right;have hn2:n=2:=by omega
  subst hn2;rw [if_pos (by rfl)];unfold Z2.ended
  by_cases hx:x.written+1=x.was.length
  ·right;refine ⟨rfl,hx,?_⟩;rw [if_pos (by exact hx)]
  ·left;refine ⟨rfl,by omega,?_⟩;rw [if_neg (by exact hx)]
theorem w_len (k:Bs c0 c1) (hl:(s.ws.length:Int)=Zw c0 c1) (h:Jz c0 c1 x) (v:Nat):(x.step s.opened v).2.ws.length=s.ws.length:=by
 have hh:x.part=1\/x.part=2\/x.part=3\/x.part=4\/x.part=5\/x.part=6\/x.part=7\/x.part=8:=by have:=h.p1;have:=h.p8;omega
 rcases hh with hp|hp|hp|hp|hp|hp|hp|hp
 ·rw [Rk k hl hp];exact Zh.add_len _ _ _
 ·rw [Ri k hl hp];exact congrArg List.length (Zh.load_ws _ _)
 ·rw [Rh k hl hp];exact congrArg List.length (Zh.load_ws _ _)
 ·rcases No k hl h hp v with ⟨_,e⟩|⟨_,e⟩|⟨_,_,e⟩|⟨_,_,e⟩|⟨_,_,e⟩
  ·rw [e];rfl
  ·rw [e];exact congrArg List.length (Zh.cellM_ws _ _ _ _)
  ·rw [e];exact congrArg List.length (Zh.cellM_ws _ _ _ _)
  ·rw [e];rfl
  ·rw [e];rfl
 ·obtain ⟨_,_,_,_,_,e,_⟩:=Nn (v:=v) k hl h hp;rw [e]
 ·obtain ⟨_,_,_,_,e,_⟩:=Nm (v:=v) k hl h hp;rw [e];exact Zh.cellS_len _ _ _ _ _
 ·rw [Rg hp];exact Zh.store_len _ _ _
 ·rw [Rf hp];exact Zh.store_len _ _ _
theorem Jz.step (k:Bs c0 c1) (hl:(s.ws.length:Int)=Zw c0 c1) (h:Jz c0 c1 x) (v:Nat):(x.part=8/\(x.step s.opened v).1={x with part:=9})\/Jz c0 c1 (x.step s.opened v).1:=by
 have hh:x.part=1\/x.part=2\/x.part=3\/x.part=4\/x.part=5\/x.part=6\/x.part=7\/x.part=8:=by have:=h.p1;have:=h.p8;omega
 rcases hh with hp|hp|hp|hp|hp|hp|hp|hp
 ·right;rw [Rk k hl hp];exact {h with p1:=by simp,p8:=by simp,scan:=by simp,wr:=by simp,nb:=λ _=>h.nb (by omega),num:=λ _=>h.num (by omega),wn:=λ _=>h.wn (by omega),low:=λ _=>h.low (by omega),how5:=by simp,how8:=by simp}
 ·right;rw [Ri k hl hp];have q:(if s.wd 1=x.ticket then (3:Int) else 2)=3\/(if s.wd 1=x.ticket then (3:Int) else 2)=2:=by split <;> simp
  exact {h with p1:=by show 1<=(if s.wd 1=x.ticket then (3:Int) else 2);omega,p8:=by show (if s.wd 1=x.ticket then (3:Int) else 2)<=8;omega,scan:=λ h=>by replace h:(if s.wd 1=x.ticket then (3:Int) else 2)=5:=h;omega,wr:=λ h=>by replace h:(if s.wd 1=x.ticket then (3:Int) else 2)=6:=h;omega,nb:=λ _=>h.nb (by omega),num:=λ _=>h.num (by omega),wn:=λ _=>h.wn (by omega),low:=λ _=>h.low (by omega),how5:=λ h=>by replace h:5<=(if s.wd 1=x.ticket then (3:Int) else 2):=h;omega,how8:=λ h=>by replace h:(if s.wd 1=x.ticket then (3:Int) else 2)=8:=h;omega}
 ·right;rw [Rh k hl hp];exact {h with p1:=by simp,p8:=by simp,scan:=by simp,wr:=by simp,nb:=λ _=>h.nb (by omega),num:=λ _=>h.num (by omega),wn:=λ _=>h.wn (by omega),low:=λ h=>by simp at h,how5:=by simp,how8:=by simp}
 ·right;obtain ⟨m1,m2,m3,m4,m5,m6⟩:=h.mach v;have m:=Qz v h.wt;have hmore:=Ab (s:=x.m) v h.wt;rcases No k hl h hp v with ⟨hk,e⟩|⟨hk,e⟩|⟨hk,hf,e⟩|⟨hk,hh,e⟩|⟨hk,hh,e⟩
  ·rw [if_neg (by rintro ⟨a,b⟩;rcases hk with q|q|⟨q,q'⟩;omega;omega;rw [b] at q';cases q')] at hmore;rw [e];exact {h with mt:=m2,mc:=m1,mo:=m3,wt:=m.wt (by omega),buf:=m4,most:=m5,bc:=m6,was:=by show x.was.length=_;rw [h.was,hmore];rfl,wr:=λ hq=>by replace hq:x.part=6:=hq;omega,low:=λ hq=>by replace hq:x.part<=3:=hq;omega,how5:=λ hq=>by replace hq:5<=x.part:=hq;omega,how8:=λ hq=>by replace hq:x.part=8:=hq;omega}
  ·rw [if_neg (by omega)] at hmore;rw [e];exact {h with mt:=m2,mc:=m1,mo:=m3.give (m.k1 hk).1 _,wt:=rfl,buf:=m4,most:=m5,bc:=m6,was:=by show x.was.length=(x.m.step v).1.buf.order.length;rw [h.was,hmore];rfl,wr:=λ hq=>by replace hq:x.part=6:=hq;omega,low:=λ hq=>by replace hq:x.part<=3:=hq;omega,how5:=λ hq=>by replace hq:5<=x.part:=hq;omega,how8:=λ hq=>by replace hq:x.part=8:=hq;omega}
  ·rw [if_pos ⟨hk,hf⟩] at hmore;rw [e];exact {h with mt:=m2,mc:=m1,mo:=m3,wt:=m.wt (by omega),buf:=m4,most:=m5,bc:=m6,was:=by show (x.was++[_]).length=(x.m.step v).1.buf.order.length;rw [hmore,List.length_append,h.was];rfl,wr:=λ hq=>by replace hq:x.part=6:=hq;omega,low:=λ hq=>by replace hq:x.part<=3:=hq;omega,how5:=λ hq=>by replace hq:5<=x.part:=hq;omega,how8:=λ hq=>by replace hq:x.part=8:=hq;omega}
  ·rw [if_neg (by omega)] at hmore;rw [e];exact {h with p1:=by simp,p8:=by simp,mt:=m2,mc:=m1,mo:=m3,wt:=m.wt (by omega),buf:=m4,most:=m5,bc:=m6,was:=by show x.was.length=(x.m.step v).1.buf.order.length;rw [h.was,hmore];rfl,scan:=λ _=>⟨0,0,by omega,by have:=k.b0;omega,by rw [h.k0,h.k1];rfl⟩,wr:=by simp,nb:=λ _=>h.nb (by omega),num:=λ _=>h.num (by omega),wn:=λ _=>h.wn (by omega),low:=by simp,how5:=λ _ _=>hh,how8:=by simp}
  ·rw [if_neg (by omega)] at hmore;rw [e];exact {h with p1:=by simp,p8:=by simp,mt:=m2,mc:=m1,mo:=m3,wt:=m.wt (by omega),buf:=m4,most:=m5,bc:=m6,was:=by show x.was.length=(x.m.step v).1.buf.order.length;rw [h.was,hmore];rfl,scan:=by simp,wr:=by simp,nb:=λ _=>h.nb (by omega),num:=by simp,wn:=by simp,low:=by simp,how5:=by simp,how8:=λ _=>(m.k4 hk).1}
 ·right;have hb:=h.nb (by omega);obtain ⟨nx,po,h0,h1,_,_,hr⟩:=Nn (v:=v) k hl h hp;rcases hr with ⟨_,e⟩|⟨_,h2,e⟩|⟨_,h2,e⟩
  ·rw [e];exact {h with scan:=λ _=>⟨nx,_,h0,h1,rfl⟩,wr:=λ hq=>by replace hq:x.part=6:=hq;omega}
  ·rw [e];exact {h with scan:=λ _=>⟨nx+1,po,by omega,by omega,rfl⟩,wr:=λ hq=>by replace hq:x.part=6:=hq;omega}
  ·rw [e]
   by_cases hw:0 < x.was.length
   ·rw [if_pos hw];exact {h with p1:=by simp,p8:=by simp,scan:=by simp,wr:=λ _=>⟨by show x.written < x.was.length;rw [h.wn (by omega)];exact hw,0,by omega,by omega,by simp only [Z2.wr,hb,h.k0,h.k1];rfl⟩,nb:=by simp,num:=λ _=>h.num (by omega),wn:=by simp,low:=by simp,how5:=λ _ _=>h.how5 (by omega) (by omega),how8:=by simp}
   ·rw [if_neg hw];exact {h with p1:=by simp,p8:=by simp,scan:=by simp,wr:=by simp,nb:=λ _=>hb,num:=λ _=>h.num (by omega),wn:=by simp,low:=by simp,how5:=λ _ _=>h.how5 (by omega) (by omega),how8:=by simp}
 ·right;obtain ⟨n,h0,h3,e1,_,hr⟩:=Nm (v:=v) k hl h hp;have hlt:=(h.wr hp).1;rcases hr with ⟨h2,e⟩|⟨_,h2,e⟩|⟨_,h2,e⟩
  ·rw [e];exact {h with scan:=λ hq=>by replace hq:x.part=5:=hq;omega,wr:=λ _=>⟨hlt,n+1,by omega,by omega,rfl⟩,nb:=λ hq=>absurd hp hq,wn:=λ hq=>by replace hq:x.part<=5:=hq;omega}
  ·rw [e];exact {h with scan:=λ hq=>by replace hq:x.part=5:=hq;omega,wr:=λ _=>⟨h2,0,by omega,by omega,by rw [show (Z2.wr {x with back:=none,written:=x.written+1})=_ from rfl,h.k0,h.k1];rfl⟩,nb:=λ hq=>rfl,wn:=λ hq=>by replace hq:x.part<=5:=hq;omega}
  ·rw [e];exact {h with p1:=by simp,p8:=by simp,scan:=by simp,wr:=by simp,nb:=λ _=>rfl,num:=λ _=>h.num (by omega),wn:=by simp,low:=by simp,how5:=λ _ _=>h.how5 (by omega) (by omega),how8:=by simp}
 ·right;rw [Rg hp];exact {h with p1:=by simp,p8:=by simp,scan:=by simp,wr:=by simp,nb:=λ _=>h.nb (by omega),num:=by simp,wn:=by simp,low:=by simp,how5:=by simp,how8:=λ _=>by show x.m.how≠0;rw [h.how5 (by omega) (by omega)];decide}
 ·left;rw [Rf hp];exact ⟨hp,rfl⟩
end
end
section
variable {c0 c1 c j t:Int} {s:Zh} {y:Yg} {v:Nat} {r:Y1}
structure L1 (c0 c1:Int) (y:Yg) (r:Y1):Prop where
 pa0:0<=r.pa
 pa3:r.pa<=3
 p4:r.p4=Z4 c1
 c:r.c=y.m.cell
 st:r.st=y.com.st
 lo:0<=r.c
 hi:r.c < c0
structure Ks (c0 c1 t:Int) (y:Yg):Prop where
 k0:y.c0=c0
 k1:y.c1=c1
 p1:1<=y.part
 p3:y.part<=3
 th:y.thread=t
 t0:0<=t
 t1:t < c1
 tag:y.tag≠2
 mt:y.m.tag≠2
 mc:y.m.c0=c0
 mo:Yl y.m
 buf:y.m.buf.order=[]
 bk:∀ c,y.m.buf.known c=false
 com:y.com.p2=2/\y.com.p3=3/\y.com.th=t
 ci:y.com.Inv
 n1:y.part=1->y.com.n≠3
 n3:y.part≠1->y.com.n=3
 rd:∀ r,y.read=some r->y.part=2/\y.m.waits=true/\L1 c0 c1 y r
 nw:y.read=none->y.m.waits=false
 how:y.part=3->y.m.how≠0
 low:y.part=1->y.m.reads=[]/\y.m.out=[]
 ar:y.args.length<=8
theorem Dn (r:Y1) (w:Int):(r.took w).p4=r.p4/\(r.took w).c=r.c/\(r.took w).st=r.st:=by
 unfold Y1.took;split
 ·exact ⟨rfl,rfl,rfl⟩
 split
 ·exact ⟨rfl,rfl,rfl⟩
 split <;> exact ⟨rfl,rfl,rfl⟩
structure RB (c0 c1 t:Int) (y:Yg):Prop where
 k0:y.c0=c0
 k1:y.c1=c1
 th:y.thread=t
 t0:0<=t
 t1:t < c1
 tag:y.tag≠2
 mt:y.m.tag≠2
 mc:y.m.c0=c0
 buf:y.m.buf.order=[]
 bk:∀ c,y.m.buf.known c=false
 com:y.com.p2=2/\y.com.p3=3/\y.com.th=t
 ci:y.com.Inv
 n3:y.com.n=3
 ar:y.args.length<=8
theorem Ks.mach (h:Ks c0 c1 t y) (hr:y.read=none) (v:Nat):(y.m.step v).1.c0=c0/\(y.m.step v).1.tag≠2/\Yl (y.m.step v).1/\(y.m.step v).1.buf=y.m.buf:=by
 have m:=Qz v (h.nw hr);refine ⟨m.c0.trans h.mc,by rw [m.tag];exact h.mt,Hd h.mo v,?_⟩;rcases m.kind with q|q|q|q|q
 ·exact (m.k0 q).1
 ·exact (m.k1 q).2.2.2.2.1
 ·exact (m.k2 q).2.1
 ·exact absurd (m.k3 q).1 h.mt
 ·exact (m.k4 q).2.1
theorem Ru (k:Bs c0 c1) (h:Ks c0 c1 t y) (hp:y.part=3):y.step s.opened v=({y with part:=4},s.opened.store (3+t) 0):=by
 have t0:=h.t0;have t1:=h.t1;have b1:=k.b1;unfold Yg.step;rw [if_neg (by omega),if_neg (by omega),h.th];unfold Zh.leave;rw [if_pos (J3 t0 (by omega) (by omega) (by omega))]
section
theorem Be (k:Bs c0 c1) (hl:(s.ws.length:Int)=Zw c0 c1) (o:L1 c0 c1 y r):(y.goOn r s.opened).2.ws=s.ws/\
  (((r.took (s.cw c1 r.c r.which)).pa=4/\(y.goOn r s.opened).1={y with m:=y.m.give (r.took (s.cw c1 r.c r.which)).va,read:=none})\/
   ((r.took (s.cw c1 r.c r.which)).pa≠4/\(y.goOn r s.opened).1={y with read:=some (r.took (s.cw c1 r.c r.which))})):=by
 obtain ⟨a0,a3,e4,ec,est,l0,l1⟩:=o;have hw:0<=r.which/\r.which<=2:=by unfold Y1.which;split <;> (try split) <;> omega
 have herr:r.err s.opened=0:=by
  unfold Y1.err;rw [if_neg (by omega),e4];exact Lw k hl l0 l1 hw.1 hw.2
 have hnext:r.next s.opened=r.took (s.cw c1 r.c r.which):=by
  unfold Y1.next;rw [if_pos herr,e4,cw_val k hl l0 l1 hw.1 hw.2]
 have hover:r.over s.opened=((r.took (s.cw c1 r.c r.which)).pa==4):=by
  unfold Y1.over;rw [if_pos herr,hnext]
 unfold Yg.goOn;refine ⟨?_,?_⟩
 ·show (r.mem s.opened).ws=s.ws;unfold Y1.mem;rw [if_neg (by omega),Zh.cellM_ws];rfl
 ·simp only [hover,hnext]
  by_cases h4:(r.took (s.cw c1 r.c r.which)).pa=4
  ·left;refine ⟨h4,?_⟩;rw [if_pos (by simp [h4])];unfold Y1.value;rw [if_pos h4]
  ·right;refine ⟨h4,?_⟩;rw [if_neg (by simp [h4])]
theorem RB.goOn (k:Bs c0 c1) (hl:(s.ws.length:Int)=Zw c0 c1) (b:RB c0 c1 t y) (hp:y.part=2) (hw:y.m.waits=true) (mo:Yl y.m) (o:L1 c0 c1 y r):Ks c0 c1 t (y.goOn r s.opened).1:=by
 have kp:=Dn r (s.cw c1 r.c r.which);rcases (Be k hl o).2 with ⟨h4,e⟩|⟨h4,e⟩
 ·rw [e];exact {b with p1:=by show 1<=y.part;omega,p3:=by show y.part<=3;omega,mo:=mo.give hw _,n1:=λ hq=>by replace hq:y.part=1:=hq;omega,n3:=λ _=>b.n3,rd:=by simp,nw:=λ _=>rfl,how:=λ hq=>by replace hq:y.part=3:=hq;omega,low:=λ hq=>by replace hq:y.part=1:=hq;omega}
 ·rw [e];have hi:(r.took (s.cw c1 r.c r.which)).Inv:=Y1.took_inv _ _;have i0:=hi.lo;have i4:=hi.hi;have hrd:∀ q,some (r.took (s.cw c1 r.c r.which))=some q->y.part=2/\y.m.waits=true/\L1 c0 c1 y q:=by
   intro q hq;obtain rfl:=Zo_ hq;exact ⟨hp,hw,i0,by omega,kp.1.trans o.p4,kp.2.1.trans o.c,kp.2.2.trans o.st,by rw [kp.2.1];exact o.lo,by rw [kp.2.1];exact o.hi⟩
  exact {b with p1:=by show 1<=y.part;omega,p3:=by show y.part<=3;omega,mo:=mo,n1:=λ hq=>by replace hq:y.part=1:=hq;omega,n3:=λ _=>b.n3,rd:=λ q hq=>⟨(hrd q hq).1,(hrd q hq).2.1,{(hrd q hq).2.2 with}⟩,nw:=λ hq=>(by cases hq),how:=λ hq=>by replace hq:y.part=3:=hq;omega,low:=λ hq=>by replace hq:y.part=1:=hq;omega}
theorem r1_err (k:Bs c0 c1) (hl:(s.ws.length:Int)=Zw c0 c1) (h:Ks c0 c1 t y) (hp:y.part=1):y.com.err s.opened=0:=by
 obtain ⟨e2,e3,et⟩:=h.com;have t0:=h.t0;have t1:=h.t1;have b1:=k.b1;have b0:=k.b0;have a0:=k.a0;have hn:=h.n1 hp;unfold Zw at hl;unfold Yf.err;rw [if_neg hn,et,if_neg (by omega)]
 by_cases h1:y.com.n=1
 ·rw [if_pos h1,e3];unfold Zh.leaveE;rw [if_pos (J3 t0 (by omega) (by omega) (by omega))];exact Zh.acc_op (by omega) (by omega)
 ·rw [if_neg h1,e2];exact Zh.acc_op (by omega) (by omega)
theorem Pe (k:Bs c0 c1) (hl:(s.ws.length:Int)=Zw c0 c1) (h:Ks c0 c1 t y) (hp:y.part=1):(y.com.n=0/\(y.step s.opened v).1={y with com:={y.com with n:=1,cl:=s.wd 2},part:=1}/\(y.step s.opened v).2.ws=s.ws)\/
  (y.com.n=1/\(y.step s.opened v).1={y with com:={y.com with n:=2},part:=1}/\(y.step s.opened v).2=s.opened.store (3+t) (u64 (y.com.cl+1)))\/
  (y.com.n=2/\(y.step s.opened v).1={y with com:={y.com with n:=3,st:=s.wd 2},part:=2}/\(y.step s.opened v).2.ws=s.ws):=by
 obtain ⟨e2,e3,et⟩:=h.com;have herr:=r1_err k hl h hp;have t0:=h.t0;have t1:=h.t1;have b1:=k.b1;have b0:=k.b0;have a0:=k.a0;have hn:=h.n1 hp;have hlo:=h.ci.lo;have hhi:=h.ci.hi;have hl':=hl;unfold Zw at hl';have hgot:s.opened.got 2=s.wd 2:=Zh.got_op (by omega) (by omega);unfold Yg.step;rw [if_pos hp];unfold Yf.next Yf.over Yf.mem;simp only [herr,et,e2,e3];rcases (show y.com.n=0\/y.com.n=1\/y.com.n=2 by omega) with q|q|q
 ·left;refine ⟨q,?_,?_⟩
  ·simp [q,hgot]
  ·rw [if_neg (by omega),if_neg (by omega),if_neg (by omega),Zh.load_ws];rfl
 ·right;left;refine ⟨q,?_,?_⟩
  ·simp [q]
  ·rw [if_neg (by omega),if_neg (by omega),if_pos q,if_pos (J3 t0 (by omega) (by omega) (by omega))];rfl
 ·right;right;refine ⟨q,?_,?_⟩
  ·simp [q,hgot]
  ·rw [if_neg (by omega),if_neg (by omega),if_neg (by omega),Zh.load_ws];rfl
theorem Nu (k:Bs c0 c1) (hl:(s.ws.length:Int)=Zw c0 c1) (h:Ks c0 c1 t y) (hp:y.part=2) (v:Nat):(y.step s.opened v).2.ws=s.ws/\
  ((∃ r,y.read=some r/\(y.step s.opened v).1=(y.goOn r s.opened).1)\/
   (y.read=none/\(y.m.step v).2.kind=1/\(y.step s.opened v).1=(Yg.goOn {y with m:=(y.m.step v).1} (Qb c0 c1 (y.m.step v).2.cell y.com.st) s.opened).1/\L1 c0 c1 {y with m:=(y.m.step v).1} (Qb c0 c1 (y.m.step v).2.cell y.com.st))\/
   (y.read=none/\(y.m.step v).2.kind=4/\(y.step s.opened v).1={y with m:=(y.m.step v).1,part:=3})\/
   (y.read=none/\(y.m.step v).2.kind=0/\(y.step s.opened v).1={y with m:=(y.m.step v).1})):=by
 have e:y.step s.opened v=y.run s.opened v:=by
  unfold Yg.step;rw [if_neg (by omega),if_pos hp]
 rw [e];obtain hr|⟨r,hr⟩:y.read=none\/∃ r,y.read=some r:=by
  cases y.read with
  |none=>exact .inl rfl
  |some r=>exact .inr ⟨r,rfl⟩
 ·have e:y.run s.opened v=(if (y.m.step v).2.kind=1 then Yg.goOn {y with m:=(y.m.step v).1} (Qb y.c0 y.c1 (y.m.step v).2.cell y.com.st) s.opened
    else ({y with m:=(y.m.step v).1,part:=if (y.m.step v).2.kind=4 then 3 else y.part},s.opened)):=by
   unfold Yg.run;rw [hr]
  have m:=Qz v (h.nw hr);rw [e]
  by_cases h1:(y.m.step v).2.kind=1
  ·obtain ⟨_,ec,⟨l0,l1⟩,_⟩:=m.k1 h1;rw [h.mc] at l1;have o:L1 c0 c1 {y with m:=(y.m.step v).1} (Qb c0 c1 (y.m.step v).2.cell y.com.st):=⟨by show (0:Int)<=0;omega,by show (0:Int)<=3;omega,rfl,ec.symm,rfl,l0,l1⟩;have e0:Qb y.c0 y.c1 (y.m.step v).2.cell y.com.st=Qb c0 c1 (y.m.step v).2.cell y.com.st:=by rw [h.k0,h.k1]
   rw [if_pos h1,e0];exact ⟨(Be k hl o).1,.inr (.inl ⟨hr,h1,rfl,o⟩)⟩
  ·rw [if_neg h1];refine ⟨rfl,.inr (.inr ?_)⟩;rcases m.kind with q|q|q|q|q
   ·right;exact ⟨hr,q,by simp [q]⟩
   ·exact absurd q h1
   ·have:=(m.k2 q).1;rw [h.bk] at this;cases this
   ·exact absurd (m.k3 q).1 h.mt
   ·left;exact ⟨hr,q,by simp [q]⟩
 ·have e:y.run s.opened v=y.goOn r s.opened:=by
   unfold Yg.run;rw [hr]
  rw [e];exact ⟨(Be k hl (h.rd r hr).2.2).1,.inl ⟨r,hr,rfl⟩⟩
theorem r_len (k:Bs c0 c1) (hl:(s.ws.length:Int)=Zw c0 c1) (h:Ks c0 c1 t y) (v:Nat):(y.step s.opened v).2.ws.length=s.ws.length:=by
 have hh:y.part=1\/y.part=2\/y.part=3:=by have:=h.p1;have:=h.p3;omega
 rcases hh with hp|hp|hp
 ·rcases Pe (v:=v) k hl h hp with ⟨_,_,e⟩|⟨_,_,e⟩|⟨_,_,e⟩
  ·rw [e]
  ·rw [e];exact Zh.store_len _ _ _
  ·rw [e]
 ·rw [(Nu k hl h hp v).1]
 ·rw [Ru k h hp];exact Zh.store_len _ _ _
theorem Ks.step (k:Bs c0 c1) (hl:(s.ws.length:Int)=Zw c0 c1) (h:Ks c0 c1 t y) (v:Nat):(y.part=3/\(y.step s.opened v).1={y with part:=4})\/Ks c0 c1 t (y.step s.opened v).1:=by
 have hh:y.part=1\/y.part=2\/y.part=3:=by have:=h.p1;have:=h.p3;omega
 have hci:=h.ci;rcases hh with hp|hp|hp
 ·right;have hn:y.read=none:=by
   cases hr:y.read with
   |none=>rfl
   |some r=>have:=(h.rd r hr).1;omega
  rcases Pe (v:=v) k hl h hp with ⟨q,e,_⟩|⟨q,e,_⟩|⟨q,e,_⟩
  ·rw [e];exact {h with p1:=by simp,p3:=by simp,ci:=⟨by simp,by simp,by simp,λ _=>hci.st (by omega)⟩,n1:=by simp,n3:=by simp,rd:=λ r hr=>(by rw [show y.read=some r from hr] at hn;cases hn),how:=by simp,low:=λ _=>h.low hp}
  ·rw [e];exact {h with p1:=by simp,p3:=by simp,ci:=⟨by simp,by simp,by simp,λ _=>hci.st (by omega)⟩,n1:=by simp,n3:=by simp,rd:=λ r hr=>(by rw [show y.read=some r from hr] at hn;cases hn),how:=by simp,low:=λ _=>h.low hp}
  ·rw [e];exact {h with p1:=by simp,p3:=by simp,ci:=⟨by simp,by simp,by simp,λ hq=>absurd rfl hq⟩,n1:=by simp,n3:=by simp,rd:=λ r hr=>(by rw [show y.read=some r from hr] at hn;cases hn),how:=by simp,low:=by simp}
 ·right;have b:RB c0 c1 t y:=⟨h.k0,h.k1,h.th,h.t0,h.t1,h.tag,h.mt,h.mc,h.buf,h.bk,h.com,h.ci,h.n3 (by omega),h.ar⟩;obtain ⟨_,hr⟩:=Nu k hl h hp v;rcases hr with ⟨r,hr,e⟩|⟨hr,h1,e,o⟩|⟨hr,h1,e⟩|⟨hr,h1,e⟩
  ·obtain ⟨_,hw,o⟩:=h.rd r hr;rw [e];exact RB.goOn k hl b hp hw h.mo o
  ·obtain ⟨m1,m2,m3,m4⟩:=h.mach hr v;have m:=Qz v (h.nw hr);rw [e];exact RB.goOn (y:={y with m:=(y.m.step v).1}) k hl {b with mt:=m2,mc:=m1,buf:=by rw [<-b.buf,<-m4],bk:=λ c=>by rw [<-b.bk c,<-m4]} hp (m.k1 h1).1 m3 o
  ·obtain ⟨m1,m2,m3,m4⟩:=h.mach hr v;have m:=Qz v (h.nw hr);rw [e];exact {h with p1:=by simp,p3:=by simp,mt:=m2,mc:=m1,mo:=m3,buf:=by rw [<-b.buf,<-m4],bk:=λ c=>by rw [<-b.bk c,<-m4],n1:=by simp,n3:=λ _=>b.n3,rd:=λ r q=>(by rw [show y.read=some r from q] at hr;cases hr),nw:=λ _=>m.wt (by omega),how:=λ _=>(m.k4 h1).1,low:=by simp}
  ·obtain ⟨m1,m2,m3,m4⟩:=h.mach hr v;have m:=Qz v (h.nw hr);rw [e];exact {h with mt:=m2,mc:=m1,mo:=m3,buf:=by rw [<-b.buf,<-m4],bk:=λ c=>by rw [<-b.bk c,<-m4],rd:=λ r q=>(by rw [show y.read=some r from q] at hr;cases hr),nw:=λ _=>m.wt (by omega),how:=λ q=>by replace q:y.part=3:=q;omega,low:=λ q=>by replace q:y.part=1:=q;omega}
 ·left;rw [Ru k h hp];exact ⟨hp,rfl⟩
end
end
section
def T8 (c0 c1 t:Int):Qw->Prop
 |.wr x=>Jz c0 c1 x
 |.rd y=>Ks c0 c1 t y
structure Ym (s:Zq):Prop where
 cf:Yq s.c0 s.c1 s.c2 s.c3
 nt:s.c1=s.ths.length
 len:(s.mem.ws.length:Int)=Zw s.c0 s.c1
 begun:∀ t,t < s.ths.length->(s.th t).begun<=(s.th t).calls.length/\(s.th t).calls.length<=64
 call:∀ t c,t < s.ths.length->c∈(s.th t).calls->0<=c.1/\c.1 < s.progs.length/\c.2.length<=8
 prog:∀ p∈s.progs,p.2.length<=5864062014635
 cur:∀ (t i:Nat),t < s.ths.length->(s.th t).cur=some i->∃ raw g,s.txs[i]? =some ⟨raw,some g⟩/\raw.th=(t:Int)/\raw.ended=0
 tx:∀ (i:Nat) raw g,s.txs[i]? =some ⟨raw,some g⟩->∃ t:Nat,t < s.ths.length/\(s.th t).cur=some i/\raw.th=(t:Int)/\T8 s.c0 s.c1 t g
 st:s.txs.length<=s.steps
variable {s:Zq} {t i:Nat} {raw:Zv} {g:Qw} {v:Nat}
theorem Ym.cfg (h:Ym s):Bs s.c0 s.c1:=by
 obtain ⟨a,b,c,d,_⟩:=h.cf;exact ⟨a,b,c,d⟩
theorem Ym.one (h:Ym s) {t u:Nat} (ht:t < s.ths.length) (hu:u < s.ths.length) (e1:(s.th t).cur=some i) (e2:(s.th u).cur=some i):t=u:=by
 obtain ⟨r1,g1,x1,f1,_⟩:=h.cur t i ht e1;obtain ⟨r2,g2,x2,f2,_⟩:=h.cur u i hu e2;rw [x1] at x2;simp at x2;rw [x2.1] at f1;omega
theorem Bv (l:List Gn) (t u:Nat) (x:Gn) (ht:t < l.length):(l.set t x).getD u Bd=if u=t then x else l.getD u Bd:=by
 simp only [List.getD_eq_getElem?_getD,List.getElem?_set]
 by_cases h:t=u
 ·subst h;simp [ht]
 ·simp [h,Ne.symm h]
theorem Kl {α:Type} {l:List α} {n:Nat} {d:α} (h:n < l.length):l.getD n d∈l:=by
 simp [List.getD_eq_getElem?_getD,h]
theorem Rv {c0 c1 c2 c3 tag:Int} {code:List Xf} {args:List Nat} (hc:Yq c0 c1 c2 c3):Yl (U0 c0 c1 c2 c3 tag code args):=by
 obtain ⟨a,b,c,d,e,f,g,h⟩:=hc;exact ⟨by simp [U0],by simp [U0];omega,by simp [U0];omega,by simp [U0],by simp [U0],by simp [U0],by simp [U0],by simp [U0],by simp [U0],by simp [U0],by simp [U0],rfl,by simp [U0];omega,by simp [U0]⟩
theorem newW_ok {c0 c1 c2 c3 tag:Int} {code:List Xf} {args:List Nat} (hc:Yq c0 c1 c2 c3) (ht:tag=2) (ha:args.length<=8):Jz c0 c1 (Uo c0 c1 c2 c3 tag code args):=by
 have hm:=Rv (tag:=tag) (code:=code) (args:=args) hc;obtain ⟨a,b,c,d,e,f,g,h⟩:=hc;exact {k0:=rfl,k1:=rfl,p1:=by simp [Uo],p8:=by simp [Uo],tag:=ht,mt:=ht,mc:=rfl,mo:=hm,wt:=rfl,buf:=Kz.nil _ (by omega),most:=h,bc:=by simp [Uo,U0],was:=rfl,scan:=by simp [Uo],wr:=by simp [Uo],nb:=λ _=>rfl,num:=λ _=>rfl,wn:=λ _=>rfl,low:=λ _=>⟨rfl,rfl,rfl⟩,how5:=by simp [Uo],how8:=by simp [Uo],ar:=by simpa [Uo] using ha}
theorem newR_ok {c0 c1 c2 c3 t tag:Int} {code:List Xf} {args:List Nat} (hc:Yq c0 c1 c2 c3) (ht:tag≠2) (t0:0<=t) (t1:t < c1) (ha:args.length<=8):Ks c0 c1 t (Up c0 c1 c2 c3 t tag code args):=by
 have hm:=Rv (tag:=tag) (code:=code) (args:=args) hc;exact {k0:=rfl,k1:=rfl,p1:=by simp [Up],p3:=by simp [Up],th:=rfl,t0:=t0,t1:=t1,tag:=ht,mt:=ht,mc:=rfl,mo:=hm,buf:=rfl,bk:=λ _=>rfl,com:=⟨rfl,rfl,rfl⟩,ci:=⟨by simp [Up,Pv],by simp [Up,Pv],λ _=>rfl,λ _=>rfl⟩,n1:=by simp [Up,Pv],n3:=by simp [Up],rd:=λ r hr=>(by cases hr),nw:=λ _=>rfl,how:=by simp [Up],low:=λ _=>⟨rfl,rfl⟩,ar:=by simpa [Up] using ha}
theorem Ym.callAt (h:Ym s) (ht:t < s.ths.length) (hb:(s.th t).begun < (s.th t).calls.length):0<=(s.call t).1/\(s.call t).1 < s.progs.length/\(s.call t).2.length<=8:=
 h.call t _ ht (Kl hb)
theorem Ym.newG (h:Ym s) (ht:t < s.ths.length) (hb:(s.th t).begun < (s.th t).calls.length):T8 s.c0 s.c1 t (s.newG t):=by
 unfold Zq.newG;split
 ·rename_i e;exact newW_ok h.cf e (h.callAt ht hb).2.2
 ·rename_i e;exact newR_ok h.cf e (by omega) (by rw [h.nt];omega) (h.callAt ht hb).2.2
theorem Ym.tick (h:Ym s):Ym {s with steps:=s.steps+1}:=
 ⟨h.cf,h.nt,h.len,h.begun,h.call,h.prog,h.cur,h.tx,by have:=h.st;show s.txs.length<=s.steps+1;omega⟩
theorem Ym.begin (h:Ym s) (ht:t < s.ths.length) (hc:(s.th t).cur=none) (hb:(s.th t).begun < (s.th t).calls.length) (hs:s.txs.length < s.steps):Ym (s.begin t):=by
 have hth:∀ u,(s.begin t).th u=if u=t then {s.th t with cur:=some s.txs.length,begun:=(s.th t).begun+1} else s.th u:=λ u=>Bv _ _ _ _ ht
 have hl:(s.begin t).ths.length=s.ths.length:=by simp [Zq.begin]
 have hx:(s.begin t).txs=s.txs++[⟨Xl t (s.th t).begun (s.call t).1 s.steps,some (s.newG t)⟩]:=rfl;refine ⟨h.cf,h.nt.trans (by rw [hl]),h.len,?_,?_,h.prog,?_,?_,?_⟩
 ·intro u hu;rw [hl] at hu;rw [hth]
  by_cases e:u=t
  ·subst e;rw [if_pos rfl];have:=(h.begun u ht).2;exact ⟨hb,this⟩
  ·rw [if_neg e];exact h.begun u hu
 ·intro u c hu hm;rw [hl] at hu;rw [hth] at hm
  by_cases e:u=t
  ·subst e;rw [if_pos rfl] at hm;exact h.call u c ht hm
  ·rw [if_neg e] at hm;exact h.call u c hu hm
 ·intro u i hu hi;rw [hl] at hu;rw [hth] at hi
  by_cases e:u=t
  ·subst e;rw [if_pos rfl] at hi;simp at hi;subst hi;exact ⟨_,_,by rw [hx];simp;exact ⟨rfl,rfl⟩,rfl,rfl⟩
  ·rw [if_neg e] at hi;obtain ⟨raw,g,h1,h2⟩:=h.cur u i hu hi;exact ⟨raw,g,by rw [hx,List.getElem?_append_left (List.getElem?_eq_some_iff.1 h1).1];exact h1,h2⟩
 ·intro i raw g hi;rw [hx,List.getElem?_append] at hi;split at hi
  ·obtain ⟨u,hu,h1,h2⟩:=h.tx i raw g hi;refine ⟨u,by rw [hl];exact hu,?_,h2⟩;rw [hth,if_neg (by rintro rfl;rw [hc] at h1;cases h1)];exact h1
  ·rename_i hn;rw [List.getElem?_singleton] at hi;split at hi
   ·rename_i hz;simp at hi;obtain ⟨rfl,rfl⟩:=hi;refine ⟨t,by rw [hl];exact ht,?_,rfl,h.newG ht hb⟩;rw [hth,if_pos rfl];show some _=some _;congr 1;omega
   ·cases hi
 ·rw [hx];show _<=s.steps;simp;omega
theorem Ym.ready (h:Ym s) (ht:t < s.ths.length) (hf:(s.th t).fin=false):Ym (s.ready t)/\(s.ready t).ths.length=s.ths.length/\∃ i,((s.ready t).th t).cur=some i:=by
 unfold Zq.ready;cases hc:(s.th t).cur with
 |some i=>
  rw [if_neg (by simp)];exact ⟨h.tick,rfl,i,hc⟩
 |none=>
  rw [if_pos (by rfl)];have hb:(s.th t).begun < (s.th t).calls.length:=by
   unfold Gn.fin at hf;rw [hc] at hf;simp at hf;have:=(h.begun t ht).1;omega
  have hs:=h.st;refine ⟨h.tick.begin ht hc hb (by show s.txs.length < s.steps+1;omega),by simp [Zq.begin],s.txs.length,?_⟩;show ((s.ths.set t _).getD t Bd).cur=_;rw [Bv _ _ _ _ ht,if_pos rfl]
def Zq.fired (s:Zq) (t i:Nat) (raw:Zv) (r:Qw×Zh):Zq:=
 if r.1.over=true then {s with mem:=r.2,ths:=s.ths.set t {s.th t with cur:=none},txs:=s.txs.set i ⟨{raw.join r.1.told with ended:=s.steps},none⟩}
 else {s with mem:=r.2,txs:=s.txs.set i ⟨raw,some r.1⟩}
theorem Bh (hc:(s.th t).cur=some i) (hx:s.txs[i]? =some ⟨raw,some g⟩) (v:Nat):s.fire t v=s.fired t i raw (g.step s.mem.opened v):=by
 unfold Zq.fire;rw [hc];simp only;rw [hx];rfl
theorem T8.step {c0 c1 t:Int} {m:Zh} (k:Bs c0 c1) (hl:(m.ws.length:Int)=Zw c0 c1) (h:T8 c0 c1 t g) (v:Nat):(((g.step m.opened v).1.over=true)\/((g.step m.opened v).1.over=false/\T8 c0 c1 t (g.step m.opened v).1))/\(g.step m.opened v).2.ws.length=m.ws.length:=by
 cases g with
 |wr x=>
  refine ⟨?_,w_len k hl h v⟩;rcases Jz.step k hl h v with e|e
  ·left;show ((x.step m.opened v).1.part==9)=true;rw [e.2];rfl
  ·right;refine ⟨?_,e⟩;have:=e.p8;show ((x.step m.opened v).1.part==9)=false;simp;omega
 |rd y=>
  refine ⟨?_,r_len k hl h v⟩;rcases Ks.step k hl h v with e|e
  ·left;show ((y.step m.opened v).1.part==4)=true;rw [e.2];rfl
  ·right;refine ⟨?_,e⟩;have:=e.p3;show ((y.step m.opened v).1.part==4)=false;simp;omega
def T6:Qw->Prop
 |.wr x=>Yl x.m/\x.args.length<=8
 |.rd y=>Yl y.m/\y.args.length<=8
theorem T8.tell {c0 c1 t:Int} (h:T8 c0 c1 t g):T6 g:=by
 cases g with
 |wr x=>exact ⟨Jz.mo h,Jz.ar h⟩
 |rd y=>exact ⟨Ks.mo h,Ks.ar h⟩
theorem T8.stepTell {c0 c1 t:Int} {m:Zh} (k:Bs c0 c1) (hl:(m.ws.length:Int)=Zw c0 c1) (h:T8 c0 c1 t g) (v:Nat):T6 (g.step m.opened v).1:=by
 cases g with
 |wr x=>
  have hm:Jz c0 c1 x:=h;rcases Jz.step k hl h v with e|e
  ·show Yl (x.step m.opened v).1.m/\(x.step m.opened v).1.args.length<=8;rw [e.2];exact ⟨hm.mo,hm.ar⟩
  ·exact ⟨e.mo,e.ar⟩
 |rd y=>
  have hm:Ks c0 c1 t y:=h;rcases Ks.step k hl h v with e|e
  ·show Yl (y.step m.opened v).1.m/\(y.step m.opened v).1.args.length<=8;rw [e.2];exact ⟨hm.mo,hm.ar⟩
  ·exact ⟨e.mo,e.ar⟩
theorem Ym.fired (h:Ym s) (ht:t < s.ths.length) (hc:(s.th t).cur=some i) (hx:s.txs[i]? =some ⟨raw,some g⟩) (v:Nat):Ym (s.fired t i raw (g.step s.mem.opened v)):=by
 obtain ⟨u,hu,hcu,hru,hg⟩:=h.tx i raw g hx;obtain rfl:=h.one ht hu hc hcu;have hi:=(List.getElem?_eq_some_iff.1 hx).1;obtain ⟨ho,hlen⟩:=T8.step h.cfg h.len hg v;have htx:∀ (z:Gq) (j:Nat),(s.txs.set i z)[j]? =if i=j then some z else s.txs[j]?:=by
  intro z j;rw [List.getElem?_set]
  by_cases e:i=j
  ·rw [if_pos e,if_pos e,if_pos (by omega)]
  ·rw [if_neg e,if_neg e]
 rcases ho with ho|⟨ho,hs⟩
 ·have e:s.fired t i raw (g.step s.mem.opened v)={s with mem:=(g.step s.mem.opened v).2,ths:=s.ths.set t {s.th t with cur:=none},txs:=s.txs.set i ⟨{raw.join (g.step s.mem.opened v).1.told with ended:=s.steps},none⟩}:=by unfold Zq.fired;rw [if_pos ho]
  rw [e];have hth:∀ u,Zq.th {s with mem:=(g.step s.mem.opened v).2,ths:=s.ths.set t {s.th t with cur:=none},txs:=s.txs.set i ⟨{raw.join (g.step s.mem.opened v).1.told with ended:=s.steps},none⟩} u=if u=t then {s.th t with cur:=none} else s.th u:=λ u=>Bv _ _ _ _ ht
  refine ⟨h.cf,h.nt.trans (by simp),?_,?_,?_,h.prog,?_,?_,?_⟩
  ·show (((g.step s.mem.opened v).2.ws.length:Nat):Int)=_;rw [hlen];exact h.len
  ·intro u hu;rw [hth];have hu:u < s.ths.length:=by simpa using hu
   by_cases e:u=t
   ·rw [if_pos e];exact h.begun t ht
   ·rw [if_neg e];exact h.begun u hu
  ·intro u c hu hm;have hu:u < s.ths.length:=by simpa using hu
   rw [hth] at hm
   by_cases e:u=t
   ·rw [if_pos e] at hm;exact h.call t c ht hm
   ·rw [if_neg e] at hm;exact h.call u c hu hm
  ·intro u j hu hj;have hu:u < s.ths.length:=by simpa using hu
   rw [hth] at hj
   by_cases e:u=t
   ·rw [if_pos e] at hj;cases hj
   ·rw [if_neg e] at hj;obtain ⟨r2,g2,x2,f2⟩:=h.cur u j hu hj;refine ⟨r2,g2,?_,f2⟩;rw [htx,if_neg (by rintro rfl;exact e (h.one hu ht hj hc))];exact x2
  ·intro j r2 g2 hj;rw [htx] at hj
   by_cases e:i=j
   ·rw [if_pos e] at hj;simp at hj
   ·rw [if_neg e] at hj;obtain ⟨u,hu,hcu,h3⟩:=h.tx j r2 g2 hj;refine ⟨u,by simpa using hu,?_,h3⟩;rw [hth,if_neg (λ e2=>by rw [e2,hc] at hcu;simp at hcu;exact e hcu)];exact hcu
  ·show (s.txs.set _ _).length<=s.steps;simpa using h.st
 ·have e:s.fired t i raw (g.step s.mem.opened v)={s with mem:=(g.step s.mem.opened v).2,txs:=s.txs.set i ⟨raw,some (g.step s.mem.opened v).1⟩}:=by unfold Zq.fired;rw [if_neg (by simp [ho])]
  rw [e];refine ⟨h.cf,h.nt,?_,h.begun,h.call,h.prog,?_,?_,?_⟩
  ·show (((g.step s.mem.opened v).2.ws.length:Nat):Int)=_;rw [hlen];exact h.len
  ·intro u j hu hj;obtain ⟨r2,g2,x2,f2⟩:=h.cur u j hu hj
   by_cases e:i=j
   ·subst e;rw [hx] at x2;simp at x2;exact ⟨raw,_,by rw [htx,if_pos rfl],by rw [x2.1];exact f2⟩
   ·exact ⟨r2,g2,by rw [htx,if_neg e];exact x2,f2⟩
  ·intro j r2 g2 hj;rw [htx] at hj
   by_cases e:i=j
   ·subst e;rw [if_pos rfl] at hj;simp at hj;obtain ⟨rfl,rfl⟩:=hj;exact ⟨t,ht,hc,hru,hs⟩
   ·rw [if_neg e] at hj;exact h.tx j r2 g2 hj
  ·show (s.txs.set _ _).length<=s.steps;simpa using h.st
theorem Ym.step (h:Ym s) (ht:t < s.ths.length) (v:Nat):Ym (s.step t v)/\(s.step t v).ths.length=s.ths.length:=by
 unfold Zq.step;cases hf:(s.th t).fin with
 |true=>rw [if_pos rfl];exact ⟨h,rfl⟩
 |false=>
  rw [if_neg (by simp)];obtain ⟨hr,hl,i,hc⟩:=h.ready ht hf;have ht':t < (s.ready t).ths.length:=by rw [hl];exact ht
  obtain ⟨raw,g,hx,_⟩:=hr.cur t i ht' hc;rw [Bh hc hx];refine ⟨hr.fired ht' hc hx v,?_⟩;unfold Zq.fired;split <;> simp [hl]
end
section
variable {w0 w w' w1:World} {lab lab' lab1:Nat->Nat} {P P':EP} {s s':Zq} {t:Nat} {S J:List Nat}
structure Kp (w:World) (lab:Nat->Nat) (w':World) (lab':Nat->Nat):Prop where
 size:w.heap.size<=w'.heap.size
 own:∀ n,n < w.heap.size->lab n=0->lab' n=0
 blk:∀ n,n < w.heap.size->lab n=0->w'.heap[n]? =w.heap[n]?
 os:w'.os=w.os
 tape:w'.tape=w.tape
 output:w'.output=w.output
theorem Kp.refl (w:World) (lab:Nat->Nat):Kp w lab w lab:=⟨Nat.le_refl _,λ _ _ h=>h,λ _ _ _=>rfl,rfl,rfl,rfl⟩
theorem Kp.trans (h:Kp w lab w1 lab1) (k:Kp w1 lab1 w' lab'):Kp w lab w' lab':=
 ⟨Nat.le_trans h.size k.size,λ n hn h0=>k.own n (Nat.lt_of_lt_of_le hn h.size) (h.own n hn h0),λ n hn h0=>(k.blk n (Nat.lt_of_lt_of_le hn h.size) (h.own n hn h0)).trans (h.blk n hn h0),k.os.trans h.os,k.tape.trans h.tape,k.output.trans h.output⟩
theorem Kp.of (m:Ze S w w') (hs:Kb S w lab J) (h0:0∉J) (ha:Um w lab lab'):Kp w lab w' lab':=
 ⟨m.size,λ n hn h=>(ha n hn).trans h,λ n hn h=>m.block n hn (λ hm=>h0 (by rw [<-h];exact hs n hm hn)),m.os,m.tape,m.output⟩
theorem Kp.quiet (m:Ze [] w w') (ha:Um w lab lab'):Kp w lab w' lab':=Kp.of (J:=[]) m (by intro n hn;simp at hn) (by simp) ha
structure Ha (P P':EP):Prop where
 x:P'.x=P.x
 a:P'.a=P.a
 b:P'.b=P.b
 r:P'.r=P.r
 kt:P'.kt=P.kt
theorem Ha.refl (P:EP):Ha P P:=⟨rfl,rfl,rfl,rfl,rfl⟩
theorem Ha.trans {P P' P'':EP} (h:Ha P P') (k:Ha P' P''):Ha P P'':=⟨k.x.trans h.x,k.a.trans h.a,k.b.trans h.b,k.r.trans h.r,k.kt.trans h.kt⟩
def Uq (w0 w:World) (lab:Nat->Nat) (P:EP) (s':Zq) (w':World):Prop:=∃ lab' P',Yu w0 w' lab' P' s'/\Ha P P'/\Kp w lab w' lab'
theorem Pc {i n z:Nat} {ty:TypeId} {xs:List Value} {v:Value} (h:Vw w lab i ty z xs n v) (hn:0 < n):∃ g cap,v=.slice (some ⟨g,0,none⟩) n cap/\g < w.heap.size/\lab g=i:=by
 obtain ⟨g,cap,e,_⟩:=Yd h.row hn;exact ⟨g,cap,e,Ys h.row (by rw [e];rfl),h.own g (by rw [e];rfl)⟩
theorem Gy {i n z j:Nat} {ty:TypeId} {xs:List Value} {g cap:Nat} {u:Value} (h:Vw w lab i ty z xs n (.slice (some ⟨g,0,none⟩) n cap)) (hj:j < n * z) (hu:xs[j]? =some u):w.cell? ⟨g,j,none⟩=some u:=
 (h.row.cellAt j hj).trans hu
theorem Th (k:Ym s) {u:Nat} (hu:u < s.ths.length) (x:Gq) (ths:List Gn) (hth:(ths.getD u Bd).cur=(s.th u).cur):Zq.goer {s with ths:=ths,txs:=s.txs++[x]} u=s.goer u:=by
 unfold Zq.goer;show (match (ths.getD u Bd).cur with|none=>none|some i=>match (s.txs++[x])[i]? with|some x=>x.g|none=>none)=_;rw [hth];cases hc:(s.th u).cur with
 |none=>rfl
 |some i=>
  obtain ⟨raw,g,hx,_⟩:=k.cur u i hu hc;simp only;rw [List.getElem?_append_left (List.getElem?_eq_some_iff.1 hx).1];rfl
theorem Bm (l:List Zv) (es:List DX) (d:Zv) (e:DX) (he:es.length=l.length):Qq (l++[d]) (es++[e])=Qq l es++Z5 d e:=by
 unfold Qq;rw [List.zipWith_append he.symm];simp
theorem L8.nil {lab:Nat->Nat} {i:Nat} {d:Zv} (e:DX) (h1:e.va=.slice none 0 0) (h2:e.vr=.slice none 0 0) (h3:e.vw=.slice none 0 0) (h4:e.vo=.slice none 0 0) (g1:d.args=[]) (g2:d.reads=[]) (g3:d.writes=[]) (g4:d.out=[]):L8 w lab i d e:=
 ⟨by rw [h1,g1];exact Vw.nil _ _,by rw [h2,g2];exact Vw.nil _ _,by rw [h3,g3];exact Vw.nil _ _,by rw [h4,g4];exact Vw.nil _ _⟩
theorem Q8 {α:Type} {l:List α} {x d:α} {n:Nat} (h:n < l.length):(l++[x]).getD n d=l.getD n d:=by
 simp [List.getD_eq_getElem?_getD,List.getElem?_append_left h]
theorem Uk {α:Type} {l:List α} {x d:α}:(l++[x]).getD l.length d=x:=by
 simp [List.getD_eq_getElem?_getD]
theorem begin_c (h:Yu w0 w lab P s) (k:Ym s) (ht:t < s.ths.length) (hc:(s.th t).cur=none) (hb:(s.th t).begun < (s.th t).calls.length) (hnd:s.txs.length < 1000000000):
  Calls Tryz.prog 45 #[Xs P.x,.int .i64 t] w λ e w'=>e=.returned (.tuple #[])/\Uq w0 w lab P (s.begin t) w':=by
 obtain ⟨hp0,hp1,hal⟩:=k.callAt ht hb;obtain ⟨pvs,pl,prow,pcode⟩:=h.prog;obtain ⟨pg,pc,hvp,pgl,_⟩:=Pc prow (by omega);obtain ⟨tg,tc,hvt,_,tgl,hT⟩:=h.row;obtain ⟨cvs,cl,crow,cargs⟩:=h.call t ht;obtain ⟨cg,cc,hvc,cgl,_⟩:=Pc crow (by omega);have hgo:P.gv t=.nilIface:=by
  have:=h.go t ht;have e:s.goer t=none:=by unfold Zq.goer;rw [hc]
  rw [e] at this;exact this
 have X:=h.hx;have K:=h.thd t ht;unfold J6 at X;unfold Qg at K;rw [hvp,hvt] at X;rw [hvc,hgo] at K;rw [hvp] at prow;rw [hvc] at crow;have hpn:(s.call t).1.toNat < s.progs.length:=by omega
 obtain ⟨pa0,pa1⟩:=progV_at (l:=s.progs) pl hpn;obtain ⟨ca0,ca1⟩:=callV_at (l:=(s.th t).calls) cl hb;have P0:=Gy prow (by omega) pa0;have P1:=Gy prow (by omega) pa1;have C0:=Gy crow (by omega) ca0;have C1:=Gy crow (by omega) ca1;have hcode:=pcode _ hpn;have hargs:=cargs _ hb;obtain ⟨ca,ccap,ecode⟩:=Zo hcode.row;obtain ⟨aa,ac,eargs⟩:=Zo hargs.row;rw [ecode] at P1 hcode;rw [eargs] at C1 hargs;obtain ⟨f,ro,R⟩:=h.rnd;have hpl:=k.prog _ (Kl (d:=(0,[])) hpn);have hnl:=(k.begun t ht).2;have ht1:(t:Int) < s.c1:=by rw [k.nt];omega
 have hdl:(s.txs.map (·.raw)).length=s.txs.length:=by simp
 have hvd:=h.deeds.row.row;rw [hdl] at hvd;have hown:∀ g,P.vd.ownBlock=some g->lab g=5:=h.deeds.row.own;have hdx:P.vd.ownBlock≠some P.x:=λ e=>by have:=hown _ e;rw [h.lx] at this;omega
 have hdk:P.vd.ownBlock≠some (P.kt t):=λ e=>by have:=hown _ e;rw [h.lt t ht] at this;omega
 refine (begin_t (by omega) (by simpa using ht) hb hp0 hpn X (by rw [Int.toNat_natCast];exact hT t ht) tgl K C0 C1 cgl R P0 P1 pgl k.cf ht1 h.mem hcode.row hpl hargs.row hal hvd hnd hnl hdx hdk (g:=s.newG t) rfl).mono ?_;rintro e w' ⟨rfl,v,vd',HG,HK,HX,HR,HO,HM⟩;refine ⟨rfl,?_⟩;obtain ⟨lab',hlab⟩:∃ lab':Nat->Nat,lab'=λ n=>if n < w.heap.size then lab n else if vd'.ownBlock=some n then 5 else 30+t:=⟨_,rfl⟩
 have ha:Um w lab lab':=λ n hn=>by rw [hlab];exact if_pos hn
 have hnew:∀ n,w.heap.size<=n->vd'.ownBlock≠some n->lab' n=30+t:=λ n hn hv=>by rw [hlab];simp only;rw [if_neg (by omega),if_neg hv]
 have hvown:∀ g,vd'.ownBlock=some g->lab' g=5:=λ g hg=>by
  rw [hlab];simp only;split
  ·rename_i hl;rcases HO g hg with e|e
   ·exact hown g e
   ·omega
  ·first|rfl|rw [if_pos hg]
 have hs:Kb (P.kt t :: P.x :: P.vd.ownBlock.toList) w lab [10+t,1,5]:=by
  intro n hn _;simp only [List.mem_cons,Option.mem_toList] at hn;rcases hn with rfl|rfl|hn
  ·rw [h.lt t ht];simp
  ·rw [h.lx];simp
  ·rw [hown n hn];simp
 have KK:=h.keep HM hs (by intro q;simp at q;omega) (by intro q;simp at q;omega) (by intro q;simp at q;omega) ha;have hty:∀ n,vd'.ownBlock=some n->Xw w' n=some 50:=λ n hn=>Yc HR hn;obtain ⟨P',hP⟩:∃ P':EP,P'={P with vd:=vd',gv:=λ u=>if u=t then v else P.gv u,ai:=λ u=>if u=t then (s.txs.length:Int) else P.ai u,es:=P.es++[{X0 with fr:=ro}]}:=⟨_,rfl⟩;have hth:∀ u,(s.begin t).th u=if u=t then {s.th t with cur:=some s.txs.length,begun:=(s.th t).begun+1} else s.th u:=λ u=>Bv _ _ _ _ ht
 have hl:(s.begin t).ths.length=s.ths.length:=by simp [Zq.begin]
 have hx:(s.begin t).txs=s.txs++[⟨Xl t (s.th t).begun (s.call t).1 s.steps,some (s.newG t)⟩]:=rfl;refine ⟨lab',P',?_,⟨by rw [hP],by rw [hP],by rw [hP],by rw [hP],by rw [hP]⟩,Kp.of HM hs (by intro q;simp at q;omega) ha⟩;subst hP;refine {hx:=?_,mem:=KK.mem (by intro q;simp at q;omega),rnd:=KK.rnd (by intro q;simp at q;omega),prog:=KK.prog,trow:=?_,thd:=?_,lt:=?_,call:=?_,cur:=?_,go:=?_,deeds:=?_,n1:=by rw [hl];exact h.n1,n8:=by rw [hl];exact h.n8,nt:=h.nt.trans (by rw [hl]),lx:=KK.lx,la:=KK.la,lb:=KK.lb,lr:=KK.lr,old:=KK.old,fr:=KK.fr}
 ·rw [HX];unfold J6;simp only;rw [hvp,hvt];rfl
 ·rw [hl];exact KK.trow
 ·intro u hu;rw [hl] at hu;rw [hth]
  by_cases e:u=t
  ·subst e;simp only [if_true];rw [HK];unfold Qg;rw [hvc];rfl
  ·simp only [if_neg e];exact KK.thd u hu (by intro q;simp at q;omega)
 ·intro u hu;rw [hl] at hu;exact KK.lt u hu
 ·intro u hu;rw [hl] at hu;rw [hth];have:=KK.call u hu
  by_cases e:u=t
  ·subst e;rw [if_pos rfl];exact this
  ·rw [if_neg e];exact this
 ·intro u i hu hi;rw [hl] at hu;rw [hth] at hi;show (if u=t then (s.txs.length:Int) else P.ai u)=i
  by_cases e:u=t
  ·subst e;rw [if_pos rfl] at hi ⊢
   simp at hi;rw [hi]
  ·rw [if_neg e] at hi ⊢
   exact h.cur u i hu hi
 ·intro u hu;rw [hl] at hu;show Di w' lab' (30+u) (if u=t then v else P.gv u) ((s.begin t).goer u)
  by_cases e:u=t
  ·subst e;have e2:(s.begin u).goer u=some (s.newG u):=by
    unfold Zq.goer;rw [hth,if_pos rfl,hx];simp
   rw [e2,if_pos rfl];cases hg:s.newG u with
   |wr x=>
    rw [hg] at HG;obtain ⟨q,q1,q2,q3,q4⟩:=HG;have hx1:x.part=1:=by
     unfold Zq.newG at hg;split at hg
     ·rw [<-Qw.wr.inj hg];rfl
     ·cases hg
    refine ⟨q,q1,q2,λ _=>by rw [q3,hx1],λ n hn=>hnew n (q4 n hn) (λ hv=>?_)⟩;have:=q2.tyB hn;rw [hty n hv] at this;exact absurd this (by decide)
   |rd x=>
    rw [hg] at HG;obtain ⟨q,q1,q2,q4⟩:=HG;refine ⟨q,q1,q2,λ n hn=>hnew n (q4 n hn) (λ hv=>?_)⟩;have:=q2.tyB hn;rw [hty n hv] at this;exact absurd this (by decide)
  ·rw [if_neg e];have e2:(s.begin t).goer u=s.goer u:=Th k hu _ _ (by
    have:=hth u;rw [if_neg e] at this;exact congrArg Gn.cur this)
   rw [e2];exact KK.go u hu (by intro q;have:=h.n8;simp at q;omega)
 ·rw [hx,List.map_append,List.map_singleton];have hle:=h.deeds.len;refine ⟨by simp [hle],⟨?_,hvown⟩,?_⟩
  ·rw [Bm _ _ _ _ hle];have:(List.map (λ x=>x.raw) s.txs++[Xl t (s.th t).begun (s.call t).1 s.steps]).length=s.txs.length+1:=by simp
   rw [this];exact HR
  ·intro n hn;have hn':n < s.txs.length\/n=s.txs.length:=by simp at hn;omega
   rcases hn' with hn'|rfl
   ·rw [Q8 (by simpa using hn'),Q8 (by rw [hle];simpa using hn')];exact (h.deeds.rows n (by simpa using hn')).carry HM hs (by intro q;simp at q;omega) ha
   ·have e1:(List.map (λ x=>x.raw) s.txs++[Xl t (s.th t).begun (s.call t).1 s.steps]).getD s.txs.length Qc=Xl t (s.th t).begun (s.call t).1 s.steps:=by
     simp
    have e2:(P.es++[{X0 with fr:=ro}]).getD s.txs.length X0={X0 with fr:=ro}:=by
     have:=Uk (l:=P.es) (x:={X0 with fr:=ro}) (d:=X0);rw [hle,hdl] at this;exact this
    rw [e1,e2];exact L8.nil _ rfl rfl rfl rfl rfl rfl rfl rfl
end
end Go.Proofs.YtkhonmhnchdpkaaGreat
