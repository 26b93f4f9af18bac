/- A part of the proof; no condition. -/
import Derived.Test.YtkhonmhnchdpkaaGreatB26
set_option maxRecDepth 100000
set_option maxHeartbeats 40000000
namespace Go.Proofs.YtkhonmhnchdpkaaGreat
open Go.RowKit _root_.Go.Proofs.Tryz
open Go renaming World→W
open Option renaming some→I,none→O
open List renaming getD_eq_getElem?_getD→G_
section
open Ieee
def fl (n:Nat):Nat:=floatOfInt .f64 n
def IsN (d:Datum) (n:Nat):Prop:=∃ k:Nat,d=.number false (n * 2 ^ k) (-(k:Int))
def flK (n:Nat):Nat:=if n=0 then 1074 else 52 - n.log2
theorem read_all:(List.range 2048).all (λ n=>decide (FloatKind.f64.format.read (fl n)=.number false (n * 2 ^ flK n) (-(flK n:Int))))=true:=by decide+kernel
theorem Gp {n:Nat} (h:n < 2048):IsN (FloatKind.f64.format.read (fl n)) n:=
 ⟨flK n,of_decide_eq_true (List.all_eq_true.1 read_all n (List.mem_range.2 h))⟩
theorem Tg (s:Bool) (q d:Nat) (hq:0 < q):Toward.even.cut s (q * 2 ^ d) d=q:=by
 have hp:0 < 2 ^ d:=Nat.pow_pos (by decide);have hl:d<=(q * 2 ^ d).log2+2:=by
  have:d<=(q * 2 ^ d).log2:=(Nat.le_log2 (by have:=Nat.mul_pos hq hp;omega)).2 (Nat.le_mul_of_pos_left _ hq);omega
 unfold Toward.cut;simp only [Nat.min_eq_left hl,Nat.shiftLeft_eq,Nat.one_mul,Nat.mul_div_cancel _ hp,Nat.mul_mod_left,Nat.mul_zero];have e1:¬ (2 ^ d < 0):=by omega
 simp [e1]
theorem log2_up {n:Nat} (k:Nat) (hn:0 < n):(n * 2 ^ k).log2=n.log2+k:=by
 have hp:0 < 2 ^ k:=Nat.pow_pos (by decide);have h0:n * 2 ^ k≠0:=by have:=Nat.mul_pos hn hp;omega
 have a:2 ^ n.log2<=n:=(Nat.le_log2 (by omega)).1 (Nat.le_refl _);have b:n < 2 ^ (n.log2+1):=(Nat.log2_lt (by omega)).1 (by omega);have l:n.log2+k<=(n * 2 ^ k).log2:=(Nat.le_log2 h0).2 (by rw [Nat.pow_add];exact Nat.mul_le_mul_right _ a);have u:(n * 2 ^ k).log2 < n.log2+k+1:=(Nat.log2_lt h0).2 (by rw [show n.log2+k+1=n.log2+1+k by omega,Nat.pow_add 2 (n.log2+1)];exact Nat.mul_lt_mul_of_pos_right b hp);omega
theorem near_n {n:Nat} (hn:n < 2048) (h0:0 < n) (k:Nat):FloatKind.f64.format.nearest false (n * 2 ^ k) (-(k:Int))=FloatKind.f64.format.word false (min ((((n.log2:Int) - 52) - (-1074)).toNat * 2 ^ 52+n * 2 ^ (52 - n.log2)) FloatKind.f64.format.infRung):=by
 have hl:n.log2 < 11:=(Nat.log2_lt (by omega)).2 (by omega);have hp:0 < 2 ^ k:=Nat.pow_pos (by decide);have ef:FloatKind.f64.format.fractionBits=52:=J;have el:FloatKind.f64.format.leastPlace=-1074:=by decide
 have eb:FloatKind.f64.format.binade=2 ^ 52:=J;unfold Format.nearest;rw [Q9 (by have:=Nat.mul_pos h0 hp;omega),log2_up k h0,ef,el,eb];have em:max (-(k:Int)+((n.log2+k:Nat):Int) - ((52:Nat):Int)) (-1074)=(n.log2:Int) - 52:=by omega
 simp only [em];congr 3
 rw [Nat.shiftLeft_eq]
 by_cases hk:k<=52 - n.log2
 ·rw [show ((n.log2:Int) - 52 - -(k:Int)).toNat=0 by omega,show (-(k:Int) - ((n.log2:Int) - 52)).toNat=52 - n.log2 - k by omega,Nat.mul_assoc,<-Nat.pow_add,show k+(52 - n.log2 - k)=52 - n.log2 by omega];have:=Tg false (n * 2 ^ (52 - n.log2)) 0 (Nat.mul_pos h0 (Nat.pow_pos (by decide)))
  rwa [Nat.pow_zero,Nat.mul_one] at this
 ·rw [show ((n.log2:Int) - 52 - -(k:Int)).toNat=k - (52 - n.log2) by omega,show (-(k:Int) - ((n.log2:Int) - 52)).toNat=0 by omega,Nat.pow_zero,Nat.mul_one];have:=Tg false (n * 2 ^ (52 - n.log2)) (k - (52 - n.log2)) (Nat.mul_pos h0 (Nat.pow_pos (by decide)))
  rwa [Nat.mul_assoc,<-Nat.pow_add,show 52 - n.log2+(k - (52 - n.log2))=k by omega] at this
theorem A7 {d:Datum} {n:Nat} (hn:n < 2048) (h:IsN d n):FloatKind.f64.format.write d=fl n:=by
 obtain ⟨k,rfl⟩:=h;have e:fl n=FloatKind.f64.format.nearest false (n * 2 ^ 0) (-((0:Nat):Int)):=by
  unfold fl floatOfInt FloatKind.nearest FloatKind.encode Format.write;rw [show decide ((n:Int) < 0)=false from D9 (by omega)];simp
 show FloatKind.f64.format.nearest false (n * 2 ^ k) (-(k:Int))=_;rw [e];rcases Nat.eq_zero_or_pos n with h0|h0
 ·subst h0;simp [Format.nearest]
 ·rw [near_n hn h0 k,near_n hn h0 0]
theorem Cr (a k M:Nat) (h:k<=M):signed false (a * 2 ^ k) (-(k:Int) - -(M:Int)).toNat=((a * 2 ^ M:Nat):Int):=by
 unfold signed;rw [Q9 (by simp),Nat.shiftLeft_eq,Nat.mul_assoc,<-Nat.pow_add,show k+(-(k:Int) - -(M:Int)).toNat=M by omega]
theorem up_neg (a k M:Nat) (h:k<=M):signed true (a * 2 ^ k) (-(k:Int) - -(M:Int)).toNat=-((a * 2 ^ M:Nat):Int):=by
 unfold signed;rw [P9 rfl,Nat.shiftLeft_eq,Nat.mul_assoc,<-Nat.pow_add,show k+(-(k:Int) - -(M:Int)).toNat=M by omega]
theorem sum_n {d e:Datum} {a b:Nat} (h:IsN d a) (k:IsN e b):∃ f,d.sum e=I f/\IsN f (a+b):=by
 obtain ⟨k1,rfl⟩:=h;obtain ⟨k2,rfl⟩:=k;refine ⟨_,J,max k1 k2,?_⟩;have em:min (-(k1:Int)) (-(k2:Int))=-((max k1 k2:Nat):Int):=by omega
 simp only [em,Cr a k1 (max k1 k2) (by omega),Cr b k2 (max k1 k2) (by omega),<-Int.natCast_add,<-Nat.add_mul,Int.natAbs_natCast];congr 1
 split
 ·rfl
 ·exact D9 (Int.not_lt.2 (Int.natCast_nonneg _))
theorem dif_n {d e:Datum} {a b:Nat} (hb:b<=a) (h:IsN d a) (k:IsN e b):∃ f,d.sum e.opposite=I f/\IsN f (a - b):=by
 obtain ⟨k1,rfl⟩:=h;obtain ⟨k2,rfl⟩:=k;refine ⟨_,J,max k1 k2,?_⟩;have em:min (-(k1:Int)) (-(k2:Int))=-((max k1 k2:Nat):Int):=by omega
 have hle:=Nat.mul_le_mul_right (2 ^ max k1 k2) hb;have es:((a * 2 ^ max k1 k2:Nat):Int)+ -((b * 2 ^ max k1 k2:Nat):Int)=(((a - b) * 2 ^ max k1 k2:Nat):Int):=by rw [Nat.sub_mul];omega
 simp only [em,Cr a k1 (max k1 k2) (by omega),Bool.not_false,up_neg b k2 (max k1 k2) (by omega),es,Int.natAbs_natCast];congr 1
 split
 ·rfl
 ·exact D9 (Int.not_lt.2 (Int.natCast_nonneg _))
theorem ord_n {d e:Datum} {a b:Nat} (h:IsN d a) (k:IsN e b):d.order e=I (compare a b):=by
 obtain ⟨k1,rfl⟩:=h;obtain ⟨k2,rfl⟩:=k;have em:min (-(k1:Int)) (-(k2:Int))=-((max k1 k2:Nat):Int):=by omega
 have hp:0 < 2 ^ max k1 k2:=Nat.pow_pos (by decide);simp only [Datum.order,em,Cr a k1 (max k1 k2) (by omega),Cr b k2 (max k1 k2) (by omega)];congr 1
 rcases Nat.lt_trichotomy a b with q|q|q
 ·rw [Nat.compare_eq_lt.2 q];have:=Nat.mul_lt_mul_of_pos_right q hp;exact Int.compare_eq_lt.2 (by omega)
 ·subst q;rw [Nat.compare_eq_eq.2 rfl];exact Int.compare_eq_eq.2 J
 ·rw [Nat.compare_eq_gt.2 q];have:=Nat.mul_lt_mul_of_pos_right q hp;exact Int.compare_eq_gt.2 (by omega)
theorem add_fl {a b:Nat} (h:a+b < 2048):floatBits .add .f64 (fl a) (fl b)=I (fl (a+b)):=by
 obtain ⟨f,e,hf⟩:=sum_n (Gp (n:=a) (by omega)) (Gp (n:=b) (by omega));show Format.add _ _ _=_;unfold Format.add;rw [e];exact congrArg I (A7 h hf)
theorem sub_fl {a b:Nat} (ha:a < 2048) (hb:b<=a):floatBits .sub .f64 (fl a) (fl b)=I (fl (a - b)):=by
 obtain ⟨f,e,hf⟩:=dif_n hb (Gp (n:=a) (by omega)) (Gp (n:=b) (by omega));show Format.sub _ _ _=_;unfold Format.sub;rw [e];exact congrArg I (A7 (by omega) hf)
theorem T1 {a b:Nat} (ha:a < 2048) (hb:b < 2048):FloatKind.f64.format.order (fl a) (fl b)=I (compare a b):=ord_n (Gp ha) (Gp hb)
theorem Q8 {n:Nat} (h:n < 2048):Zq (fl n)=fl n:=by
 unfold Zq Ft;rw [T1 h h,Nat.compare_eq_eq.2 rfl,Q9 (by decide)]
theorem Wa {a b v:Nat} (h:a+b < 2048):J9 1 (fl a) (fl b) v=fl (a+b):=by
 unfold J9 Pt;rw [P9 rfl,add_fl h];exact Q8 h
theorem two_sub {a b v:Nat} (ha:a < 2048) (hb:b<=a):J9 2 (fl a) (fl b) v=fl (a - b):=by
 unfold J9 Pt;rw [Q9 (by decide),P9 rfl,sub_fl ha hb];exact Q8 (by omega)
theorem two_less {a b v:Nat} (ha:a < 2048) (hb:b < 2048):J9 8 (fl a) (fl b) v=Cm (decide (a < b)):=by
 unfold J9;rw [Q9 (by decide),Q9 (by decide),Q9 (by decide),Q9 (by decide),P9 rfl,T1 ha hb];congr 1
 rcases Nat.lt_trichotomy a b with q|q|q
 ·rw [Nat.compare_eq_lt.2 q,decide_eq_true q];rfl
 ·rw [Nat.compare_eq_eq.2 q,D9 (by omega)];rfl
 ·rw [Nat.compare_eq_gt.2 q,D9 (by omega)];rfl
theorem true_yes (b:Bool):Ud (Cm b)=b:=by cases b <;> decide+kernel
theorem idx_all:(List.range 16).all (λ a=>decide (¬ (FloatKind.f64.format.order (fl a) 0=O\/FloatKind.f64.format.order (fl a) 0=I .lt\/FloatKind.f64.format.order (fl a) 4890909195324358656≠I .lt))&&decide (FloatKind.f64.format.order (T6 (fl a)) (fl a)=I .eq)&&decide (floatToIntVal .f64 (fl a) .i64=I (a:Int)))=true:=by decide+kernel
theorem S7 {a:Nat} {n:Int} (h:a < 16) (hn:(a:Int) < n):Vf (fl a) n=I (a:Int):=by
 have q:=List.all_eq_true.1 idx_all a (List.mem_range.2 h);simp only [Bool.and_eq_true,decide_eq_true_eq] at q;obtain ⟨⟨q1,q2⟩,q3⟩:=q;unfold Vf;rw [Q9 q1,Q9 (λ e=>e q2),q3];show (if n<=(a:Int) then O else I (a:Int))=_;rw [Q9 (by omega)]
theorem Fz:fl 0=0:=by decide+kernel
end
section
def ms (m0:Zk) (p u:Int) (ns:List Nat) (rs:List (Int×Nat)) (b:Xc) (o:List Nat) (cl:Int):Zk:=
 {m0 with place:=p,used:=u,qd:=ns,reads:=rs,buf:=b,out:=o,cell:=cl}
structure M0 (m0:Zk):Prop where
 wt:m0.waits=false
 qq:m0.qq=0
 ec:m0.qn=0
 ee:m0.zd=0
 bad:m0.bad=false
 c2:m0.c2=60
variable {m0:Zk} {p u cl n:Int} {ns:List Nat} {rs:List (Int×Nat)} {b:Xc} {o:List Nat} {v x:Nat}
theorem Bk (k:M0 m0) (hu:u≠60) (hp:p≠m0.code.length):(ms m0 p u ns rs b o cl).step v=(ms m0 p u ns rs b o cl).go v:=by
 unfold Zk.step;rw [Q9 (by show ¬ m0.waits=true;rw [k.wt];simp),Q9 (by show ¬ m0.qq≠0;rw [k.qq];simp),Q9 (by show ¬ m0.bad=true;rw [k.bad];simp),Q9 (by show ¬ u=m0.c2;rw [k.c2];exact hu),Q9 (by exact hp)]
theorem Gu:(ms m0 p u ns rs b o cl).next=ms m0 (p+1) (u+1) ns rs b o cl:=J
theorem ms_push (z:Nat):(ms m0 p u ns rs b o cl).push z=ms m0 p u (ns++[z]) rs b o cl:=J
theorem Hy (z:Nat):(ms m0 p u (ns++[z]) rs b o cl).pop=ms m0 p u ns rs b o cl:=by
 unfold Zk.pop ms;simp
theorem Hw (z:Nat):(ms m0 p u (ns++[z]) rs b o cl).top=z:=by
 unfold Zk.top Zk.pick ms;simp [G_]
theorem ms_pick (y z:Nat):(ms m0 p u (ns++[y]++[z]) rs b o cl).pick 1=y:=by
 unfold Zk.pick ms;simp [G_]
section
variable (k:M0 m0) (hu:u≠60)
include k hu
theorem t_push (hat:m0.code.getD p.toNat Vw=⟨1,n,x⟩) (hp:p≠m0.code.length) (hl:ns.length < 64):(ms m0 p u ns rs b o cl).step v=(ms m0 (p+1) (u+1) (ns++[Zq x]) rs b o cl,Z1 0):=by
 rw [Bk k hu hp];have e:(ms m0 p u ns rs b o cl).at=⟨1,n,x⟩:=hat;have r:(ms m0 p u ns rs b o cl).next.qt ⟨1,n,x⟩=true:=by
  simp [Zk.qt,Zk.next,ms,U9,Xe,Qr];omega
 unfold Zk.go;rw [e,Q9 (by rw [r];simp)];rfl
theorem Po (hat:m0.code.getD p.toNat Vw=⟨6,n,x⟩) (hp:p≠m0.code.length) (hl:ns.length < 64):(ms m0 p u ns rs b o cl).step v=(ms m0 (p+1) (u+1) (ns++[m0.args n.toNat]) rs b o cl,Z1 0):=by
 rw [Bk k hu hp];have e:(ms m0 p u ns rs b o cl).at=⟨6,n,x⟩:=hat;have r:(ms m0 p u ns rs b o cl).next.qt ⟨6,n,x⟩=true:=by
  simp [Zk.qt,Zk.next,ms,U9,Xe,Qr];omega
 unfold Zk.go;rw [e,Q9 (by rw [r];simp)];rfl
theorem Wg {a d:Nat} (hat:m0.code.getD p.toNat Vw=⟨10,n,x⟩) (hp:p≠m0.code.length) (hl:ns.length < 60):(ms m0 p u (ns++[a,d]) rs b o cl).step v=(ms m0 (p+1) (u+1) (ns++[J9 n (Zq a) (Zq d) v]) rs b o cl,Z1 0):=by
 rw [show ns++[a,d]=ns++[a]++[d] by simp];rw [Bk k hu hp];have e:(ms m0 p u (ns++[a]++[d]) rs b o cl).at=⟨10,n,x⟩:=hat;have r:(ms m0 p u (ns++[a]++[d]) rs b o cl).next.qt ⟨10,n,x⟩=true:=by
  simp [Zk.qt,Zk.next,ms,U9,Xe,Qr];omega
 unfold Zk.go;rw [e,Q9 (by rw [r];simp)];rw [show (ms m0 p u (ns++[a]++[d]) rs b o cl).next.xt v ⟨10,n,x⟩=.ok (((ms m0 p u (ns++[a]++[d]) rs b o cl).next.pop.pop.push (J9 n (Zq (ms m0 p u (ns++[a]++[d]) rs b o cl).next.pop.top) (Zq (ms m0 p u (ns++[a]++[d]) rs b o cl).next.top) v)),Z1 0) from J];simp only [Gu,Hy,Hw,ms_push]
theorem t_if {z:Nat} (hat:m0.code.getD p.toNat Vw=⟨12,n,x⟩) (hp:p≠m0.code.length) (hl:ns.length < 60):(ms m0 p u (ns++[z]) rs b o cl).step v=(ms m0 (if Ud z=true then n else p+1) (u+1) ns rs b o cl,Z1 0):=by
 rw [Bk k hu hp];have e:(ms m0 p u (ns++[z]) rs b o cl).at=⟨12,n,x⟩:=hat;have r:(ms m0 p u (ns++[z]) rs b o cl).next.qt ⟨12,n,x⟩=true:=by
  simp [Zk.qt,Zk.next,ms,U9,Xe,Qr];omega
 unfold Zk.go;rw [e,Q9 (by rw [r];simp)];rw [show (ms m0 p u (ns++[z]) rs b o cl).next.xt v ⟨12,n,x⟩=.ok ({(ms m0 p u (ns++[z]) rs b o cl).next.pop with place:=if Ud (ms m0 p u (ns++[z]) rs b o cl).next.top=((12:Int)==12) then n else (ms m0 p u (ns++[z]) rs b o cl).next.place},Z1 0) from J];simp only [Gu,Hy,Hw];rfl
theorem t_emit {z:Nat} (hat:m0.code.getD p.toNat Vw=⟨18,n,x⟩) (hp:p≠m0.code.length) (hl:ns.length < 60):(ms m0 p u (ns++[z]) rs b o cl).step v=(ms m0 (p+1) (u+1) ns rs b (o++[z]) cl,Z1 0):=by
 rw [Bk k hu hp];have e:(ms m0 p u (ns++[z]) rs b o cl).at=⟨18,n,x⟩:=hat;have r:(ms m0 p u (ns++[z]) rs b o cl).next.qt ⟨18,n,x⟩=true:=by
  simp [Zk.qt,Zk.next,ms,U9,Xe,Qr];omega
 unfold Zk.go;rw [e,Q9 (by rw [r];simp)];rw [show (ms m0 p u (ns++[z]) rs b o cl).next.xt v ⟨18,n,x⟩=.ok ({(ms m0 p u (ns++[z]) rs b o cl).next.pop with out:=(ms m0 p u (ns++[z]) rs b o cl).next.out++[(ms m0 p u (ns++[z]) rs b o cl).next.top]},Z1 0) from J];simp only [Gu,Hy,Hw];rfl
theorem t_halt (hat:m0.code.getD p.toNat Vw=⟨20,n,x⟩) (hp:p≠m0.code.length) (hl:ns.length < 60):(ms m0 p u ns rs b o cl).step v=((ms m0 (p+1) (u+1) ns rs b o cl).ends 1 0 0,Z1 4):=by
 rw [Bk k hu hp];have e:(ms m0 p u ns rs b o cl).at=⟨20,n,x⟩:=hat;have r:(ms m0 p u ns rs b o cl).next.qt ⟨20,n,x⟩=true:=by
  simp [Zk.qt,Zk.next,ms,U9,Xe,Qr];omega
 unfold Zk.go;rw [e,Q9 (by rw [r];simp)];rfl
theorem t_abort (hat:m0.code.getD p.toNat Vw=⟨19,n,x⟩) (hp:p≠m0.code.length) (hl:ns.length < 60):(ms m0 p u ns rs b o cl).step v=((ms m0 (p+1) (u+1) ns rs b o cl).ends 2 n 0,Z1 4):=by
 rw [Bk k hu hp];have e:(ms m0 p u ns rs b o cl).at=⟨19,n,x⟩:=hat;have r:(ms m0 p u ns rs b o cl).next.qt ⟨19,n,x⟩=true:=by
  simp [Zk.qt,Zk.next,ms,U9,Xe,Qr];omega
 unfold Zk.go;rw [e,Q9 (by rw [r];simp)];rfl
theorem t_own {z:Nat} {c:Int} (hat:m0.code.getD p.toNat Vw=⟨16,n,x⟩) (hp:p≠m0.code.length) (hl:ns.length < 60) (hi:Vf z m0.c0=I c) (hk:b.known c=true):(ms m0 p u (ns++[z]) rs b o cl).step v=(ms m0 (p+1) (u+1) (ns++[b.val c]) (rs++[(c,b.val c)]) b o cl,⟨2,c,b.val c,false⟩):=by
 rw [Bk k hu hp];have e:(ms m0 p u (ns++[z]) rs b o cl).at=⟨16,n,x⟩:=hat;have r:(ms m0 p u (ns++[z]) rs b o cl).next.qt ⟨16,n,x⟩=true:=by
  simp [Zk.qt,Zk.next,ms,U9,Xe,Qr];omega
 unfold Zk.go;rw [e,Q9 (by rw [r];simp)];rw [show (ms m0 p u (ns++[z]) rs b o cl).next.xt v ⟨16,n,x⟩=(ms m0 p u (ns++[z]) rs b o cl).next.zx from J];unfold Zk.zx;simp only [Gu,Hy,Hw];rw [show (ms m0 (p+1) (u+1) (ns++[z]) rs b o cl).c0=m0.c0 from J,hi];simp only [show (ms m0 (p+1) (u+1) (ns++[z]) rs b o cl).buf=b from J,hk,if_true];rfl
theorem Tu {z:Nat} {c:Int} (hat:m0.code.getD p.toNat Vw=⟨16,n,x⟩) (hp:p≠m0.code.length) (hl:ns.length < 60) (hi:Vf z m0.c0=I c) (hk:b.known c=false):(ms m0 p u (ns++[z]) rs b o cl).step v=({(ms m0 (p+1) (u+1) ns rs b o c) with waits:=true},⟨1,c,0,false⟩):=by
 rw [Bk k hu hp];have e:(ms m0 p u (ns++[z]) rs b o cl).at=⟨16,n,x⟩:=hat;have r:(ms m0 p u (ns++[z]) rs b o cl).next.qt ⟨16,n,x⟩=true:=by
  simp [Zk.qt,Zk.next,ms,U9,Xe,Qr];omega
 unfold Zk.go;rw [e,Q9 (by rw [r];simp)];rw [show (ms m0 p u (ns++[z]) rs b o cl).next.xt v ⟨16,n,x⟩=(ms m0 p u (ns++[z]) rs b o cl).next.zx from J];unfold Zk.zx;simp only [Gu,Hy,Hw];rw [show (ms m0 (p+1) (u+1) (ns++[z]) rs b o cl).c0=m0.c0 from J,hi];simp only [show (ms m0 (p+1) (u+1) (ns++[z]) rs b o cl).buf=b from J,hk];rfl
omit hu in
theorem Db (w:Nat):({(ms m0 p u ns rs b o cl) with waits:=true}:Zk).xl w=ms m0 p u (ns++[Zq w]) (rs++[(cl,Zq w)]) b o cl:=by
 unfold Zk.xl Zk.push ms;simp only;rw [show m0.waits=false from k.wt]
theorem Wf {z y:Nat} {c:Int} (hat:m0.code.getD p.toNat Vw=⟨17,n,x⟩) (hp:p≠m0.code.length) (hl:ns.length < 60) (ht:m0.tag=2) (hi:Vf z m0.c0=I c) (hk:¬ (b.known c=false/\(b.order.length:Int)=b.qy)):(ms m0 p u (ns++[y,z]) rs b o cl).step v=(ms m0 (p+1) (u+1) ns rs (b.put c y) o cl,⟨3,c,y,!b.known c⟩):=by
 rw [show ns++[y,z]=ns++[y]++[z] by simp];rw [Bk k hu hp];have e:(ms m0 p u (ns++[y]++[z]) rs b o cl).at=⟨17,n,x⟩:=hat;have r:(ms m0 p u (ns++[y]++[z]) rs b o cl).next.qt ⟨17,n,x⟩=true:=by
  simp [Zk.qt,Zk.next,ms,U9,Xe,Qr];omega
 unfold Zk.go;rw [e,Q9 (by rw [r];simp)];rw [show (ms m0 p u (ns++[y]++[z]) rs b o cl).next.xt v ⟨17,n,x⟩=(ms m0 p u (ns++[y]++[z]) rs b o cl).next.zh from J];unfold Zk.zh;simp only [Gu,Hy,Hw,ms_pick];rw [Q9 (by show ¬ m0.tag≠2;rw [ht];simp),show (ms m0 (p+1) (u+1) (ns++[y]++[z]) rs b o cl).c0=m0.c0 from J,hi];simp only [show (ms m0 (p+1) (u+1) (ns++[y]++[z]) rs b o cl).buf=b from J,Q9 hk];rfl
end
theorem t_end {m:Zk} (hw:m.waits=false) (hh:m.qq≠0):m.step v=(m,Z1 4):=by
 unfold Zk.step;rw [Q9 (by rw [hw];simp),P9 hh]
end
section
variable {m m':Zh} {c0 c1 c st:Int} {x:Nat} {r:Yu}
def Zh.qs (m:Zh) (c1 c:Int):Int:=m.cw c1 c 0
def Zh.zf (m:Zh) (c1 c:Int):Nat:=Zq (m.cw c1 c 1).toNat
def Zh.xj (m:Zh) (c1 c:Int):Nat:=Zq (m.cw c1 c 2).toNat
def Vc (m:Zh) (c1 c st:Int) (x:Nat):Prop:=(m.qs c1 c<=st/\m.zf c1 c=x)\/(m.qs c1 c=st+1/\m.xj c1 c=x)
theorem Vc.fix (h:Vc m c1 c st x):Zq x=x:=by
 rcases h with ⟨_,rfl⟩|⟨_,rfl⟩
 ·exact U4 _
 ·exact U4 _
def P7 (m:Zh) (c1:Int) (r:Yu) (x:Nat):Prop:=
 r.pa=0\/(r.pa=1/\r.ve<=r.st/\(m.qs c1 r.c=r.ve\/m.qs c1 r.c=r.st+1))\/
 (r.pa=2/\r.ve<=r.st/\(m.qs c1 r.c=r.ve\/m.qs c1 r.c=r.st+1)/\(r.va=x\/m.qs c1 r.c=r.st+1))\/(r.pa=3/\m.qs c1 r.c=r.st+1)
inductive Jq (m m':Zh) (c1 c st:Int):Prop where
 |same (h0:m'.qs c1 c=m.qs c1 c) (h1:m'.zf c1 c=m.zf c1 c) (h2:m'.xj c1 c=m.xj c1 c)
 |jl (hv:m.qs c1 c<=st) (h0:m'.qs c1 c=m.qs c1 c) (h1:m'.zf c1 c=m.zf c1 c)
 |mark (hv:m.qs c1 c<=st) (he:m.xj c1 c=m.zf c1 c) (h0:m'.qs c1 c=st+1) (h2:m'.xj c1 c=m.xj c1 c)
 |put (hv:m.qs c1 c=st+1) (h0:m'.qs c1 c=st+1) (h2:m'.xj c1 c=m.xj c1 c)
theorem Vc.change (h:Vc m c1 c st x) (k:Jq m m' c1 c st):Vc m' c1 c st x:=by
 unfold Vc at h ⊢
 cases k with
 |same h0 h1 h2=>rw [h0,h1,h2];exact h
 |jl hv h0 h1=>
  rw [h0,h1];rcases h with h|h
  ·exact .inl h
  ·omega
 |mark hv he h0 h2=>
  rw [h0,h2];rcases h with h|h
  ·exact .inr ⟨J,by rw [he];exact h.2⟩
  ·omega
 |put hv h0 h2=>
  rw [h0,h2];rcases h with h|h
  ·omega
  ·exact .inr ⟨J,h.2⟩
theorem P7.change (h:P7 m c1 r x) (k:Jq m m' c1 r.c r.st):P7 m' c1 r x:=by
 unfold P7 at h ⊢
 cases k with
 |same h0 h1 h2=>rw [h0];exact h
 |jl hv h0 h1=>rw [h0];exact h
 |mark hv he h0 h2=>
  rw [h0];rcases h with h|⟨h1,h3,_⟩|⟨h1,h3,_⟩|⟨h1,h3⟩
  ·exact .inl h
  ·exact .inr (.inl ⟨h1,h3,.inr J⟩)
  ·exact .inr (.inr (.inl ⟨h1,h3,.inr J,.inr J⟩))
  ·exact .inr (.inr (.inr ⟨h1,J⟩))
 |put hv h0 h2=>
  rw [h0];rcases h with h|⟨h1,h3,_⟩|⟨h1,h3,_⟩|⟨h1,h3⟩
  ·exact .inl h
  ·exact .inr (.inl ⟨h1,h3,.inr J⟩)
  ·exact .inr (.inr (.inl ⟨h1,h3,.inr J,.inr J⟩))
  ·exact .inr (.inr (.inr ⟨h1,J⟩))
theorem P7.qz (h:P7 m c1 r x) (g:Vc m c1 r.c r.st x):((r.qz (m.cw c1 r.c r.qu)).pa=4/\(r.qz (m.cw c1 r.c r.qu)).va=x)\/((r.qz (m.cw c1 r.c r.qu)).pa≠4/\P7 m c1 (r.qz (m.cw c1 r.c r.qu)) x):=by
 unfold P7 at h;rcases h with hp|⟨hp,h1,h2⟩|⟨hp,h1,h2,h3⟩|⟨hp,h1⟩
 ·have e:r.qu=0:=by unfold Yu.qu;rw [Q9 (by omega),Q9 (by omega)]
  rw [e];have ev:m.cw c1 r.c 0=m.qs c1 r.c:=J;rw [ev];unfold Yu.qz;rw [P9 hp];right
  by_cases hv:r.st < m.qs c1 r.c
  ·refine ⟨by simp [hv],.inr (.inr (.inr ⟨by simp [hv],?_⟩))⟩;rcases g with g|g
   ·omega
   ·exact g.1
  ·refine ⟨by simp [hv],.inr (.inl ⟨by simp [hv],by show m.qs c1 r.c<=r.st;omega,.inl rfl⟩)⟩
 ·have e:r.qu=1:=by unfold Yu.qu;rw [P9 hp]
  rw [e];unfold Yu.qz;rw [Q9 (by omega),P9 hp];right;refine ⟨by simp,.inr (.inr (.inl ⟨rfl,h1,h2,?_⟩))⟩;rcases g with g|g
  ·exact .inl g.2
  ·exact .inr g.1
 ·have e:r.qu=0:=by unfold Yu.qu;rw [Q9 (by omega),Q9 (by omega)]
  rw [e];have ev:m.cw c1 r.c 0=m.qs c1 r.c:=J;rw [ev];unfold Yu.qz;rw [Q9 (by omega),Q9 (by omega),P9 hp]
  by_cases hv:m.qs c1 r.c=r.ve
  ·left;refine ⟨by simp [hv],?_⟩;rcases h3 with h3|h3
   ·exact h3
   ·omega
  ·right;refine ⟨by simp [hv],.inr (.inr (.inr ⟨by simp [hv],?_⟩))⟩;rcases h2 with h2|h2
   ·exact absurd h2 hv
   ·exact h2
 ·have e:r.qu=2:=by unfold Yu.qu;rw [Q9 (by omega),P9 hp]
  rw [e];unfold Yu.qz;rw [Q9 (by omega),Q9 (by omega),Q9 (by omega)];left;refine ⟨J,?_⟩;rcases g with g|g
  ·omega
  ·exact g.2
def Jg (m:Zh) (c0 c1:Int) (y:Z8):Prop:=
 ∃ g:Int->Nat,(∀ c,0<=c->c < c0->Vc m c1 c y.qh.st (g c))/\(∀ p∈y.m.reads,p.2=g p.1)/\(∀ r,y.read=I r->P7 m c1 r (g r.c))
theorem Jg.change {y:Z8} (h:Jg m c0 c1 y) (hr:∀ r,y.read=I r->(0<=r.c/\r.c < c0)/\r.st=y.qh.st) (k:∀ c,0<=c->c < c0->Jq m m' c1 c y.qh.st):Jg m' c0 c1 y:=by
 obtain ⟨g,h1,h2,h3⟩:=h;refine ⟨g,λ c a b=>(h1 c a b).change (k c a b),h2,λ r e=>?_⟩;obtain ⟨⟨a,b⟩,est⟩:=hr r e;exact (h3 r e).change (by rw [est];exact k r.c a b)
def V1 (m m':Zh) (c0 c1:Int):Prop:=∀ c,0<=c->c < c0->m'.qs c1 c=m.qs c1 c/\m'.zf c1 c=m.zf c1 c/\m'.xj c1 c=m.xj c1 c
theorem V1.change (h:V1 m m' c0 c1) (a:0<=c) (b:c < c0):Jq m m' c1 c st:=.same (h c a b).1 (h c a b).2.1 (h c a b).2.2
theorem Qc (h:m'.ws=m.ws):V1 m m' c0 c1:=by
 intro c _ _;have e:∀ n,m'.wd n=m.wd n:=λ n=>by unfold Zh.wd;rw [h]
 unfold Zh.qs Zh.zf Zh.xj Zh.cw;simp only [e];exact ⟨trivial,trivial,trivial⟩
theorem Qu (hb:1<=c1) (h:∀ n:Nat,3+c1<=n->m'.wd n=m.wd n):V1 m m' c0 c1:=by
 intro c a _;unfold Zh.qs Zh.zf Zh.xj Zh.cw Z2;rw [h _ (by omega),h _ (by omega),h _ (by omega)];exact ⟨J,J,J⟩
theorem Jg.new {y:Z8} (hv:∀ c,0<=c->c < c0->m.qs c1 c<=y.qh.st+1) (hr:y.m.reads=[]) (hn:y.read=O):Jg m c0 c1 y:=by
 refine ⟨λ c=>if m.qs c1 c<=y.qh.st then m.zf c1 c else m.xj c1 c,λ c a b=>?_,by rw [hr];simp,λ r e=>by rw [hn] at e;cases e⟩;show Vc m c1 c y.qh.st (if m.qs c1 c<=y.qh.st then m.zf c1 c else m.xj c1 c)
 by_cases h:m.qs c1 c<=y.qh.st
 ·rw [P9 h];exact .inl ⟨h,J⟩
 ·rw [Q9 h];refine .inr ⟨?_,J⟩;have:=hv c a b;omega
end
section
def DCons (d:Zu):Prop:=(d.tag=2/\d.writes≠[])\/∀ p∈d.reads,∀ q∈d.reads,p.1=q.1->p.2=q.2
def Kp (qe:List Vb) (y:Z8):Prop:=∃ (i:Nat) (raw:Zu),qe[i]? =I ⟨raw,I (.rd y)⟩
structure Vs (m:Zh) (c0 c1:Int) (qe:List Vb) (x:Zv):Prop where
 ql:4<=x.part->x.part<=6->∀ j,x.written<=j->j < x.ql.length->x.ql.getD j 0=m.zf c1 (x.m.buf.order.getD j 0)
 scan:x.part=5->∀ c y,x.scan=I c->Kp qe y->y.qh.n=3->y.thread < c.nx->y.qh.st=m.wd 2
 all:x.part=6->∀ y,Kp qe y->y.qh.n=3->y.qh.st=m.wd 2
 rest:x.part=6->∀ j,x.written < j->j < x.ql.length->m.qs c1 (x.m.buf.order.getD j 0)<=m.wd 2
 now:x.part=6->∃ n,0<=n/\n < 3/\x.wr=x.kv c0 c1 n/\(n<=1->m.qs c1 (Xb x)<=m.wd 2)/\(1<=n->m.xj c1 (Xb x)=m.zf c1 (Xb x))/\(n=2->m.qs c1 (Xb x)=m.wd 2+1)
 kz:4<=x.part->x.m.buf.order=[]->∀ p∈x.m.reads,(0<=p.1/\p.1 < c0)/\p.2=m.zf c1 p.1
structure Vn (m:Zh) (c0 c1:Int) (qe:List Vb):Prop where
 yo:∀ c,0<=c->c < c0->m.qs c1 c<=m.wd 2+1
 low:(∀ c,0<=c->c < c0->m.qs c1 c<=m.wd 2)\/∃ (i:Nat) (raw:Zu) (x:Zv),qe[i]? =I ⟨raw,I (.wr x)⟩/\(x.part=6\/x.part=7)
 cl:∀ (i:Nat) (raw:Zu) (y:Z8),qe[i]? =I ⟨raw,I (.rd y)⟩->1<=y.qh.n->0<=y.qh.cl/\y.qh.cl<=m.wd 2
 ud:∀ (i:Nat) (raw:Zu) (y:Z8),qe[i]? =I ⟨raw,I (.rd y)⟩->2<=y.qh.n->m.wd (3+y.thread).toNat=y.qh.cl+1
 st:∀ (i:Nat) (raw:Zu) (y:Z8),qe[i]? =I ⟨raw,I (.rd y)⟩->y.qh.n=3->y.qh.cl<=y.qh.st/\y.qh.st<=m.wd 2
 rd:∀ (i:Nat) (raw:Zu) (y:Z8),qe[i]? =I ⟨raw,I (.rd y)⟩->y.qh.n=3->Jg m c0 c1 y
 wr:∀ (i:Nat) (raw:Zu) (x:Zv),qe[i]? =I ⟨raw,I (.wr x)⟩->Vs m c0 c1 qe x
 jl:∀ (i:Nat) (raw:Zu),qe[i]? =I ⟨raw,O⟩->DCons raw
variable {m m':Zh} {c0 c1:Int} {qe:List Vb} {i:Nat} {z:Vb} {x x':Zv} {y y':Z8} {raw:Zu}
theorem Kw (hi:i < qe.length) (z:Vb) (j:Nat):(qe.set i z)[j]? =if i=j then I z else qe[j]?:=by
 rw [List.getElem?_set]
 by_cases e:i=j
 ·rw [P9 e,P9 e,P9 (by omega)]
 ·rw [Q9 e,Q9 e]
theorem My (hi:i < qe.length) (h:Kp (qe.set i z) y):(z.g=I (.rd y))\/∃ j raw,j≠i/\qe[j]? =I ⟨raw,I (.rd y)⟩:=by
 obtain ⟨j,raw,hj⟩:=h;rw [Kw hi] at hj
 by_cases e:i=j
 ·rw [P9 e] at hj;left;rw [Zo_ hj]
 ·rw [Q9 e] at hj;exact .inr ⟨j,raw,λ e2=>e e2.symm,hj⟩
theorem Vs.same (h:Vs m c0 c1 qe x) (hc:∀ c∈x.m.buf.order,0<=c/\c < c0) (hwl:x.ql.length=x.m.buf.order.length) (hcc:x.part=6->0<=Xb x/\Xb x < c0) (sm:V1 m m' c0 c1) (hk:m'.wd 2=m.wd 2) {txs':List Vb}
  (hr:∀ y,Kp txs' y->y.qh.n=3->(∃ y0,Kp qe y0/\y0.qh=y.qh/\y0.thread=y.thread)\/y.qh.st=m.wd 2):Vs m' c0 c1 txs' x:=by
 have hm:∀ j,j < x.ql.length->0<=x.m.buf.order.getD j 0/\x.m.buf.order.getD j 0 < c0:=λ j hj=>hc _ (by
  have hj':j < x.m.buf.order.length:=by omega
  rw [G_,List.getElem?_eq_getElem hj'];exact List.getElem_mem hj')
 refine ⟨λ a b j h1 h2=>?_,λ a c y h1 h2 h3 h4=>?_,λ a y h2 h3=>?_,λ a j h1 h2=>?_,λ a=>?_,λ a b p hp=>?_⟩
 ·rw [(sm _ (hm j h2).1 (hm j h2).2).2.1];exact h.ql a b j h1 h2
 ·rw [hk];rcases hr y h2 h3 with ⟨y0,q1,q2,q3⟩|q
  ·rw [<-q2];exact h.scan a c y0 h1 q1 (by rw [q2];exact h3) (by rw [q3];exact h4)
  ·exact q
 ·rw [hk];rcases hr y h2 h3 with ⟨y0,q1,q2,q3⟩|q
  ·rw [<-q2];exact h.all a y0 q1 (by rw [q2];exact h3)
  ·exact q
 ·rw [(sm _ (hm j h2).1 (hm j h2).2).1,hk];exact h.rest a j h1 h2
 ·obtain ⟨n,q1,q2,q3,q4,q5,q6⟩:=h.now a;obtain ⟨e1,e2,e3⟩:=sm _ (hcc a).1 (hcc a).2;exact ⟨n,q1,q2,q3,by rw [e1,hk];exact q4,by rw [e2,e3];exact q5,by rw [e1,hk];exact q6⟩
 ·obtain ⟨⟨q1,q2⟩,q3⟩:=h.kz a b p hp;exact ⟨⟨q1,q2⟩,by rw [(sm _ q1 q2).2.1];exact q3⟩
theorem Jv.ww (h:Jv c0 c1 x):(∀ c∈x.m.buf.order,0<=c/\c < c0)/\x.ql.length=x.m.buf.order.length/\(x.part=6->0<=Xb x/\Xb x < c0):=⟨h.bc,h.ql,λ hp=>h.cell hp⟩
theorem Os (h:Jv c0 c1 x) (hp:x.part=6):Xb x=x.m.buf.order.getD x.written 0:=by
 have h1:=(h.wr hp).1;rw [h.ql] at h1;unfold Xb Xc.all;simp [G_,h1]
structure Pe (c0 c1:Int) (m:Zh) (qe:List Vb):Prop where
 k:Bc c0 c1
 len:(m.ws.length:Int)=Zw c0 c1
 w:∀ (i:Nat) (raw:Zu) (x:Zv),qe[i]? =I ⟨raw,I (.wr x)⟩->Jv c0 c1 x
 r:∀ (i:Nat) (raw:Zu) (y:Z8),qe[i]? =I ⟨raw,I (.rd y)⟩->Ks c0 c1 y.thread y
 two:∀ (i j:Nat) (r1 r2:Zu) (y1 y2:Z8),qe[i]? =I ⟨r1,I (.rd y1)⟩->qe[j]? =I ⟨r2,I (.rd y2)⟩->y1.thread=y2.thread->i=j
 one:∀ (i j:Nat) (r1 r2:Zu) (x1 x2:Zv),qe[i]? =I ⟨r1,I (.wr x1)⟩->qe[j]? =I ⟨r2,I (.wr x2)⟩->3<=x1.part->3<=x2.part->i=j
 qg:∀ (i:Nat) (raw:Zu) (x:Zv),qe[i]? =I ⟨raw,I (.wr x)⟩->4<=x.part->x.part<=7->x.qg=m.wd 2
 small:0<=m.wd 2/\m.wd 2 < 1000000000
theorem Ks.rdc (h:Ks c0 c1 y.thread y):∀ r,y.read=I r->(0<=r.c/\r.c < c0)/\r.st=y.qh.st:=λ r e=>by
 have o:=(h.rd r e).2.2;exact ⟨⟨o.lo,o.hi⟩,o.st⟩
theorem Vn.reader (h:Vn m c0 c1 qe) (o:Pe c0 c1 m qe) (hi:qe[i]? =I ⟨raw,I (.rd y)⟩) (sm:V1 m m' c0 c1) (hk:m'.wd 2=m.wd 2)
  (hcen:∀ n:Nat,n≠(3+y.thread).toNat->3<=n->(n:Int) < 3+c1->m'.wd n=m.wd n)
  (hz:∀ y',z.g=I (.rd y')->y'.thread=y.thread/\(y.qh.n=3->y'.qh=y.qh)/\(y'.qh.n=3->y.qh.n=3\/y'.qh.st=m.wd 2)/\(1<=y'.qh.n->0<=y'.qh.cl/\y'.qh.cl<=m.wd 2)/\(2<=y'.qh.n->m'.wd (3+y.thread).toNat=y'.qh.cl+1)/\(y'.qh.n=3->y'.qh.cl<=y'.qh.st/\y'.qh.st<=m.wd 2/\Jg m' c0 c1 y'))
  (hw:∀ x,z.g≠I (.wr x)) (ho:z.g=O->DCons z.raw):Vn m' c0 c1 (qe.set i z):=by
 have hil:=(List.getElem?_eq_some_iff.1 hi).1;have T:=Kw hil z;have hcm:∀ c,0<=c->c < c0->m'.qs c1 c=m.qs c1 c:=λ c a b=>(sm c a b).1;refine ⟨λ c a b=>?_,?_,λ j raw2 y2 hj=>?_,λ j raw2 y2 hj h2=>?_,λ j raw2 y2 hj h3=>?_,λ j raw2 y2 hj h3=>?_,λ j raw2 x2 hj=>?_,λ j raw2 hj=>?_⟩
 ·rw [hcm c a b,hk];exact h.yo c a b
 ·rcases h.low with q|⟨j,raw2,x2,hj,hp⟩
  ·left;intro c a b;rw [hcm c a b,hk];exact q c a b
  ·right;refine ⟨j,raw2,x2,?_,hp⟩;rw [T,Q9 (by rintro rfl;rw [hi] at hj;simp at hj)];exact hj
 ·rw [T] at hj;rw [hk];split at hj
  ·have e:=Zo_ hj;exact (hz y2 (by rw [e])).2.2.2.1
  ·exact h.cl j raw2 y2 hj
 ·rw [T] at hj;split at hj
  ·have e:=Zo_ hj;have q:=hz y2 (by rw [e]);rw [q.1];exact q.2.2.2.2.1 h2
  ·rename_i hne;have hs:=o.r j raw2 y2 hj;have hthr:y2.thread≠y.thread:=λ e=>hne (o.two j i _ _ _ _ hj hi e).symm;have ht0:=hs.t0;have ht1:=hs.t1;have hs':=o.r i raw y hi;have hu0:=hs'.t0;rw [hcen _ (by omega) (by omega) (by omega)];exact h.ud j raw2 y2 hj h2
 ·rw [T] at hj;rw [hk];split at hj
  ·have e:=Zo_ hj;have q:=(hz y2 (by rw [e])).2.2.2.2.2 h3;exact ⟨q.1,q.2.1⟩
  ·exact h.st j raw2 y2 hj h3
 ·rw [T] at hj;split at hj
  ·have e:=Zo_ hj;exact ((hz y2 (by rw [e])).2.2.2.2.2 h3).2.2
  ·exact (h.rd j raw2 y2 hj h3).change (o.r j raw2 y2 hj).rdc (λ c a b=>sm.change a b)
 ·rw [T] at hj;split at hj
  ·have e:=Zo_ hj;exact absurd (by rw [e]) (hw x2)
  ·obtain ⟨b1,b2,b3⟩:=(o.w j raw2 x2 hj).ww;refine (h.wr j raw2 x2 hj).same b1 b2 b3 sm hk (λ y3 h3 hn=>?_);rcases My hil h3 with e|⟨j3,raw3,_,hj3⟩
   ·have q:=hz y3 e;rcases q.2.2.1 hn with q3|q3
    ·exact .inl ⟨y,⟨i,raw,hi⟩,(q.2.1 q3).symm,q.1.symm⟩
    ·exact .inr q3
   ·exact .inl ⟨y3,⟨j3,raw3,hj3⟩,J,J⟩
 ·rw [T] at hj;split at hj
  ·have e:=Zo_ hj;have:=ho (by rw [e]);rw [e] at this;exact this
  ·exact h.jl j raw2 hj
theorem Vn.writer (h:Vn m c0 c1 qe) (o:Pe c0 c1 m qe) (hi:qe[i]? =I ⟨raw,I (.wr x)⟩) (hk:m.wd 2<=m'.wd 2) (_:m'.wd 2=m.wd 2\/x.part=7)
  (hcen:∀ n:Nat,3<=n->(n:Int) < 3+c1->m'.wd n=m.wd n)
  (hch:∀ c st,0<=c->c < c0->(x.part=6->st=m.wd 2)->Jq m m' c1 c st) (hsm:x.part≠6->V1 m m' c0 c1)
  (hver:∀ c,0<=c->c < c0->m'.qs c1 c<=m'.wd 2+1)
  (hlow:(∀ c,0<=c->c < c0->m'.qs c1 c<=m'.wd 2)\/(∃ x',z.g=I (.wr x')/\(x'.part=6\/x'.part=7))\/(x.part<=5/\m'.wd 2=m.wd 2))
  (hp3:3<=x.part\/m'.wd 2=m.wd 2)
  (hw:∀ x',z.g=I (.wr x')->Vs m' c0 c1 qe x') (hr:∀ y,z.g≠I (.rd y)) (ho:z.g=O->DCons z.raw):Vn m' c0 c1 (qe.set i z):=by
 have hil:=(List.getElem?_eq_some_iff.1 hi).1;have T:=Kw hil z;have RS:∀ y,Kp (qe.set i z) y->Kp qe y:=by
  intro y hy;rcases My hil hy with e|⟨j,raw2,_,hj⟩
  ·exact absurd e (hr y)
  ·exact ⟨j,raw2,hj⟩
 have six:∀ y,Kp qe y->y.qh.n=3->x.part=6->y.qh.st=m.wd 2:=λ y hy hn hp=>(h.wr i raw x hi).all hp y hy hn;refine ⟨hver,?_,λ j raw2 y2 hj hn=>?_,λ j raw2 y2 hj h2=>?_,λ j raw2 y2 hj h3=>?_,λ j raw2 y2 hj h3=>?_,λ j raw2 x2 hj=>?_,λ j raw2 hj=>?_⟩
 ·rcases hlow with q|⟨x',e,hp⟩|⟨h5,hk2⟩
  ·exact .inl q
  ·right;refine ⟨i,z.raw,x',?_,hp⟩;rw [T,P9 rfl];obtain ⟨zr,zg⟩:=z;simp only at e;rw [e]
  ·have sm:=hsm (by omega);rcases h.low with q|⟨j,raw2,x2,hj,hp⟩
   ·left;intro c a b;rw [(sm c a b).1,hk2];exact q c a b
   ·right;refine ⟨j,raw2,x2,?_,hp⟩;rw [T,Q9 (by rintro rfl;rw [hi] at hj;simp at hj;obtain ⟨-,rfl⟩:=hj;omega)];exact hj
 ·rw [T] at hj;split at hj
  ·have e:=Zo_ hj;exact absurd (by rw [e]) (hr y2)
  ·have:=h.cl j raw2 y2 hj hn;omega
 ·rw [T] at hj;split at hj
  ·have e:=Zo_ hj;exact absurd (by rw [e]) (hr y2)
  ·have hs:=o.r j raw2 y2 hj;have ht0:=hs.t0;have ht1:=hs.t1;rw [hcen _ (by omega) (by omega)];exact h.ud j raw2 y2 hj h2
 ·rw [T] at hj;split at hj
  ·have e:=Zo_ hj;exact absurd (by rw [e]) (hr y2)
  ·have:=h.st j raw2 y2 hj h3;omega
 ·rw [T] at hj;split at hj
  ·have e:=Zo_ hj;exact absurd (by rw [e]) (hr y2)
  ·exact (h.rd j raw2 y2 hj h3).change (o.r j raw2 y2 hj).rdc (λ c a b=>hch c _ a b (six y2 ⟨j,raw2,hj⟩ h3))
 ·rw [T] at hj;split at hj
  ·have e:=Zo_ hj;have q:=hw x2 (by rw [e]);exact ⟨q.ql,λ a c y b hy=>q.scan a c y b (RS y hy),λ a y hy=>q.all a y (RS y hy),q.rest,q.now,q.kz⟩
  ·rename_i hne;rcases hp3 with hp3|hk2
   ·have hlt:¬ 3<=x2.part:=λ h3=>hne (o.one i j _ _ _ _ hi hj hp3 h3);exact ⟨λ a=>by omega,λ a=>by omega,λ a=>by omega,λ a=>by omega,λ a=>by omega,λ a=>by omega⟩
   ·by_cases h6:x.part=6
    ·have hlt:¬ 3<=x2.part:=λ h3=>hne (o.one i j _ _ _ _ hi hj (by omega) h3);exact ⟨λ a=>by omega,λ a=>by omega,λ a=>by omega,λ a=>by omega,λ a=>by omega,λ a=>by omega⟩
    ·obtain ⟨b1,b2,b3⟩:=(o.w j raw2 x2 hj).ww;exact (h.wr j raw2 x2 hj).same b1 b2 b3 (hsm h6) hk2 (λ y3 h3 hn=>.inl ⟨y3,RS y3 h3,J,J⟩)
 ·rw [T] at hj;split at hj
  ·have e:=Zo_ hj;have:=ho (by rw [e]);rw [e] at this;exact this
  ·exact h.jl j raw2 hj
end
section
variable {m m':Zh} {c0 c1:Int} {qe:List Vb} {i v:Nat} {z:Vb} {x x':Zv} {y y':Z8} {raw:Zu} {r:Yu}
theorem Jg.zl (k:Bc c0 c1) (hl:(m.ws.length:Int)=Zw c0 c1) (o:Rl c0 c1 y r) {g:Int->Nat} (G:∀ c,0<=c->c < c0->Vc m c1 c y.qh.st (g c)) (R:∀ p∈y.m.reads,p.2=g p.1) (qV:P7 m c1 r (g r.c)):
  (y.zl r m.opened).1.qh=y.qh/\(y.zl r m.opened).1.thread=y.thread/\Jg m c0 c1 (y.zl r m.opened).1:=by
 have gr:=G r.c o.lo o.hi;rw [<-o.st] at gr;obtain ⟨-,q⟩:=Jc k hl o;rcases q with ⟨h4,e⟩|⟨h4,e⟩
 ·rw [e];refine ⟨J,J,g,G,λ p hp=>?_,λ r' hr'=>by cases hr'⟩;have hp:p∈y.m.reads++[(y.m.cell,Zq (r.qz (m.cw c1 r.c r.qu)).va)]:=hp;rcases List.mem_append.1 hp with hp|hp
  ·exact R p hp
  ·simp at hp;subst hp;show Zq (r.qz (m.cw c1 r.c r.qu)).va=g y.m.cell;rcases qV.qz gr with ⟨_,hv⟩|⟨hn,_⟩
   ·rw [hv,<-o.c];exact (G r.c o.lo o.hi).fix
   ·exact absurd h4 hn
 ·rw [e];refine ⟨J,J,g,G,R,λ r' hr'=>?_⟩;have hr':I (r.qz (m.cw c1 r.c r.qu))=I r':=hr';obtain rfl:=Zo_ hr';rw [(Hl r _).2.1];rcases qV.qz gr with ⟨h,_⟩|⟨_,h⟩
  ·exact absurd h h4
  ·exact h
theorem C8 (h:Jg m c0 c1 y) (e:m'.ws=m.ws):Jg m' c0 c1 y:=by
 have w:∀ n,m'.wd n=m.wd n:=λ n=>by unfold Zh.wd;rw [e]
 have v0:∀ c,m'.qs c1 c=m.qs c1 c:=λ c=>by unfold Zh.qs Zh.cw;rw [w]
 have v1:∀ c,m'.zf c1 c=m.zf c1 c:=λ c=>by unfold Zh.zf Zh.cw;rw [w]
 have v2:∀ c,m'.xj c1 c=m.xj c1 c:=λ c=>by unfold Zh.xj Zh.cw;rw [w]
 obtain ⟨g,h1,h2,h3⟩:=h;refine ⟨g,λ c a b=>?_,h2,λ r hr=>?_⟩
 ·unfold Vc;rw [v0,v1,v2];exact h1 c a b
 ·unfold P7;rw [v0];exact h3 r hr
theorem Vn.kk (h:Vn m c0 c1 qe) (o:Pe c0 c1 m qe) (hi:qe[i]? =I ⟨raw,I (.rd y)⟩) (v:Nat) (hz:(z.g=I (.rd (y.step m.opened v).1)/\(y.step m.opened v).1.part≠4)\/(z.g=O/\(y.step m.opened v).1.part=4/\z.raw.reads=(y.step m.opened v).1.m.reads)):Vn (y.step m.opened v).2 c0 c1 (qe.set i z):=by
 have hs:=o.r i raw y hi;have t0:=hs.t0;have t1:=hs.t1;have b0:=o.k.b0;have p1:=hs.p1;have p3:=hs.p3;have hzr:∀ y',z.g=I (.rd y')->y'=(y.step m.opened v).1:=by
  intro y' e;rcases hz with ⟨e2,_⟩|⟨e2,_⟩
  ·rw [e2] at e;simp at e;exact e.symm
  ·rw [e2] at e;cases e
 have hzw:∀ x,z.g≠I (.wr x):=by
  intro x e;rcases hz with ⟨e2,_⟩|⟨e2,_⟩
  ·rw [e2] at e;cases e
  ·rw [e2] at e;cases e
 rcases (show y.part=1\/y.part=2\/y.part=3 by omega) with hp|hp|hp
 ·have hno:z.g≠O:=by
   intro e;rcases hz with ⟨e2,_⟩|⟨_,e2,_⟩
   ·rw [e2] at e;cases e
   ·rcases Kz (v:=v) o.k o.len hs hp with ⟨_,e3,_⟩|⟨_,e3,_⟩|⟨_,e3,_⟩
    ·rw [e3] at e2;simp at e2
    ·rw [e3] at e2;simp at e2
    ·rw [e3] at e2;simp at e2
  rcases Kz (v:=v) o.k o.len hs hp with ⟨hn,e,ews⟩|⟨hn,e,em⟩|⟨hn,e,ews⟩
  ·have w:∀ n,(y.step m.opened v).2.wd n=m.wd n:=λ n=>by unfold Zh.wd;rw [ews]
   refine h.reader o hi (Qc ews) (w 2) (λ n _ _ _=>w n) (λ y' hy'=>?_) hzw (λ e=>absurd e hno);rw [hzr y' hy',e];have:=o.small;refine ⟨J,λ a=>by omega,λ a=>?_,λ _=>⟨?_,?_⟩,λ a=>?_,λ a=>?_⟩
   ·simp at a
   ·show 0<=m.wd 2;omega
   ·show m.wd 2<=m.wd 2;omega
   ·simp at a
   ·simp at a
  ·have hcl:=h.cl i raw y hi (by omega);have hsm:=o.small;have eu:u64 (y.qh.cl+1)=y.qh.cl+1:=J8 (by omega) (by omega);have hlt:=Ve o.k o.len (3+y.thread) (by omega) (by omega);have w:∀ n:Nat,(y.step m.opened v).2.wd n=if (3+y.thread).toNat=n then y.qh.cl+1 else m.wd n:=λ n=>by
    rw [em,eu];exact Zh.zv (by omega) hlt _ n
   refine h.reader o hi (Qu b0 (λ n hn=>by rw [w,Q9 (by omega)])) (by rw [w,Q9 (by omega)]) (λ n hne _ _=>by rw [w,Q9 (λ e=>hne e.symm)]) (λ y' hy'=>?_) hzw (λ e=>absurd e hno);rw [hzr y' hy',e];refine ⟨J,λ a=>by omega,λ a=>?_,λ _=>hcl,λ _=>?_,λ a=>?_⟩
   ·simp at a
   ·rw [w,P9 rfl]
   ·simp at a
  ·have w:∀ n,(y.step m.opened v).2.wd n=m.wd n:=λ n=>by unfold Zh.wd;rw [ews]
   have hcl:=h.cl i raw y hi (by omega);have hcen:=h.ud i raw y hi (by omega);refine h.reader o hi (Qc ews) (w 2) (λ n _ _ _=>w n) (λ y' hy'=>?_) hzw (λ e=>absurd e hno);rw [hzr y' hy',e];refine ⟨J,λ a=>by omega,λ _=>.inr J,λ _=>hcl,λ _=>?_,λ _=>⟨hcl.2,Int.le_refl _,?_⟩⟩
   ·rw [w];exact hcen
   ·refine C8 (m:=m) ?_ ews;refine Jg.new (λ c a b=>h.yo c a b) (hs.low hp).1 ?_;cases hr:y.read with
    |none=>rfl
    |some r=>exact absurd (hs.rd r hr).1 (by omega)
 ·have hn3:=hs.n3 (by omega);obtain ⟨ews,q⟩:=Bv o.k o.len hs hp v;have w:∀ n,(y.step m.opened v).2.wd n=m.wd n:=λ n=>by unfold Zh.wd;rw [ews]
  have hcl:=h.cl i raw y hi (by omega);have hcen:=h.ud i raw y hi (by omega);have hst:=h.st i raw y hi hn3;have hrd:=h.rd i raw y hi hn3;have main:(y.step m.opened v).1.qh=y.qh/\(y.step m.opened v).1.thread=y.thread/\Jg m c0 c1 (y.step m.opened v).1/\(y.step m.opened v).1.part≠4:=by
   obtain ⟨g,G,R,qV⟩:=hrd;have pt:∀ (y2:Z8) (r2:Yu),(y2.zl r2 m.opened).1.part=y2.part:=by
    intro y2 r2;unfold Z8.zl;simp only;split <;> rfl
   rcases q with ⟨r,hr,e⟩|⟨hr,h1,e,ok⟩|⟨hr,h4,e⟩|⟨hr,h0,e⟩
   ·have q:=Jg.zl o.k o.len (hs.rd r hr).2.2 G R (qV r hr);rw [e];exact ⟨q.1,q.2.1,q.2.2,by rw [pt];omega⟩
   ·have ms:=Qw v (hs.nw hr);have q:=Jg.zl o.k o.len ok (g:=g) G (by show ∀ p∈(y.m.step v).1.reads,p.2=g p.1;rw [(ms.k1 h1).2.2.2.2.2];exact R) (.inl J);rw [e];exact ⟨q.1,q.2.1,q.2.2,by rw [pt];show y.part≠4;omega⟩
   ·have ms:=Qw v (hs.nw hr);rw [e];refine ⟨J,J,⟨g,G,?_,λ r hr2=>?_⟩,by simp⟩
    ·show ∀ p∈(y.m.step v).1.reads,p.2=g p.1;rw [(ms.k4 h4).2.2];exact R
    ·have hr2:y.read=I r:=hr2;rw [hr] at hr2;cases hr2
   ·have ms:=Qw v (hs.nw hr);rw [e];refine ⟨J,J,⟨g,G,?_,λ r hr2=>?_⟩,by show y.part≠4;omega⟩
    ·show ∀ p∈(y.m.step v).1.reads,p.2=g p.1;rw [(ms.k0 h0).2];exact R
    ·have hr2:y.read=I r:=hr2;rw [hr] at hr2;cases hr2
  obtain ⟨m1,m2,m3,m4⟩:=main;refine h.reader o hi (Qc ews) (w 2) (λ n _ _ _=>w n) (λ y' hy'=>?_) hzw (λ e=>?_)
  ·rw [hzr y' hy',m1,m2];exact ⟨J,λ _=>J,λ _=>.inl hn3,λ _=>hcl,λ _=>by rw [w];exact hcen,λ _=>⟨hst.1,hst.2,C8 m3 ews⟩⟩
  ·rcases hz with ⟨e2,_⟩|⟨_,e2,_⟩
   ·rw [e2] at e;cases e
   ·exact absurd e2 m4
 ·have hn3:=hs.n3 (by omega);have e:=Nq (v:=v) (s:=m) o.k hs hp;have hlt:=Ve o.k o.len (3+y.thread) (by omega) (by omega);have w:∀ n:Nat,(y.step m.opened v).2.wd n=if (3+y.thread).toNat=n then 0 else m.wd n:=λ n=>by
   rw [e];exact Zh.zv (by omega) hlt _ n
  have hrd:=h.rd i raw y hi hn3;refine h.reader o hi (Qu b0 (λ n hn=>by rw [w,Q9 (by omega)])) (by rw [w,Q9 (by omega)]) (λ n hne _ _=>by rw [w,Q9 (λ e=>hne e.symm)]) (λ y' hy'=>?_) hzw (λ _=>?_)
  ·rcases hz with ⟨_,e2⟩|⟨e2,_⟩
   ·rw [e] at e2;exact absurd J e2
   ·rw [e2] at hy';cases hy'
  ·rcases hz with ⟨_,e2⟩|⟨_,_,e3⟩
   ·rw [e] at e2;exact absurd J e2
   ·right;rw [e3,e];obtain ⟨g,_,R,_⟩:=hrd;intro p hp2 q hq he;rw [R p hp2,R q hq,he]
end
section
variable {m m':Zh} {c0 c1:Int} {qe:List Vb} {i v:Nat} {z:Vb} {x x':Zv} {y y':Z8} {raw:Zu} {r:Yu}
theorem Vs.low (hp:x'.part<=3):Vs m c0 c1 qe x':=⟨λ a=>by omega,λ a=>by omega,λ a=>by omega,λ a=>by omega,λ a=>by omega,λ a=>by omega⟩
theorem W9 (k:Bc c0 c1) (hl:(m.ws.length:Int)=Zw c0 c1) {c d j w:Int} (h0:0<=d) (h1:d < c0) (w0:0<=w) (w2:w<=2) (c00:0<=c) (j0:0<=j) (j2:j<=2) (u:Int):(m.opened.zj (Z2 c1) d w u).cw c1 c j=if c=d/\j=w then u else m.cw c1 c j:=by
 have b0:=k.b0;unfold Zh.cw;rw [cw_set k hl h0 h1 w0 w2];unfold Z2
 by_cases e:c=d/\j=w
 ·obtain ⟨rfl,rfl⟩:=e;rw [P9 rfl,P9 ⟨rfl,rfl⟩]
 ·rw [Q9 e,Q9 (by omega)]
theorem Vn.uv (h:Vn m c0 c1 qe) (o:Pe c0 c1 m qe) (hi:qe[i]? =I ⟨raw,I (.wr x)⟩) (h3:3<=x.part) (h6:x.part≠6) (h7:x.part≠7):∀ c,0<=c->c < c0->m.qs c1 c<=m.wd 2:=by
 rcases h.low with q|⟨j,raw2,x2,hj,hp⟩
 ·exact q
 ·exfalso;have e:=o.one i j _ _ _ _ hi hj h3 (by omega);subst e;rw [hi] at hj;simp at hj;obtain ⟨-,rfl⟩:=hj;omega
theorem J0 {l:List Int} {j:Nat} (h:j < l.length):l.getD j 0∈l:=by
 rw [G_,List.getElem?_eq_getElem h];exact List.getElem_mem h
theorem Lx {α:Type} {l:List α} {a d:α} {j:Nat}:(l++[a]).getD j d=if j=l.length then a else l.getD j d:=by
 split
 ·rename_i h;subst h;simp
 ·rename_i h;rcases Nat.lt_or_ge j l.length with h'|h'
  ·simp [List.getElem?_append_left h']
  ·rw [G_,G_,List.getElem?_eq_none (by simp;omega),List.getElem?_eq_none (by omega)]
theorem Vs.ran (h:Vs m c0 c1 qe x) (hs:Jv c0 c1 x) (hp:x.part=4) (ht:∀ y,Kp qe y->0<=y.thread) {r:Zv×Zh} (q:Ran x m v r):Vs m c0 c1 qe r.1/\r.2.ws=m.ws/\r.1.part≠9:=by
 have ms:=Qw v hs.wt;have hk1:=hs.k1;have now:∀ c,Zq (m.cw x.c1 c 1).toNat=m.zf c1 c:=λ c=>by rw [hk1];rfl
 cases q with
 |quiet hk e=>
  subst e;have ho:(x.m.step v).1.buf.order=x.m.buf.order:=by
   rcases hk with q|q|⟨q,f⟩
   ·rw [(ms.k0 q).1]
   ·rw [(ms.k2 q).2.1]
   ·rw [(ms.k3 q).2.2.1,Qh];have:=(ms.k3 q).2.2.2.1;rw [f] at this;have hkn:x.m.buf.known (x.m.step v).2.cell=true:=by
     cases hq:x.m.buf.known (x.m.step v).2.cell with
     |true=>rfl
     |false=>rw [hq] at this;cases this
    rw [P9 hkn]
  refine ⟨⟨λ a b j j1 j2=>?_,λ a=>?_,λ a=>?_,λ a=>?_,λ a=>?_,λ a b p hp2=>?_⟩,J,?_⟩
  ·show x.ql.getD j 0=m.zf c1 ((x.m.step v).1.buf.order.getD j 0);rw [ho];exact h.ql (by omega) (by omega) j j1 j2
  ·have a:x.part=5:=a;omega
  ·have a:x.part=6:=a;omega
  ·have a:x.part=6:=a;omega
  ·have a:x.part=6:=a;omega
  ·have b:(x.m.step v).1.buf.order=[]:=b;rw [ho] at b;have nk:∀ c,x.m.buf.known c≠true:=λ c hc=>by
    have:=(hs.buf.kn c).1 hc;rw [b] at this;cases this
   have hp2:p∈(x.m.step v).1.reads:=hp2;rcases hk with q|q|⟨q,f⟩
   ·rw [(ms.k0 q).2] at hp2;exact h.kz (by omega) b p hp2
   ·exact absurd (ms.k2 q).1 (nk _)
   ·rw [(ms.k3 q).2.2.2.2.1] at hp2;exact h.kz (by omega) b p hp2
  ·show x.part≠9;omega
 |read hk e=>
  subst e;obtain ⟨k1,k2,⟨k3,k4⟩,k5,k6,k7⟩:=ms.k1 hk;refine ⟨⟨λ a b j j1 j2=>?_,λ a=>?_,λ a=>?_,λ a=>?_,λ a=>?_,λ a b p hp2=>?_⟩,Zh.xn _ _ _ _,?_⟩
  ·show x.ql.getD j 0=m.zf c1 ((x.m.step v).1.buf.order.getD j 0);rw [k6];exact h.ql (by omega) (by omega) j j1 j2
  ·have a:x.part=5:=a;omega
  ·have a:x.part=6:=a;omega
  ·have a:x.part=6:=a;omega
  ·have a:x.part=6:=a;omega
  ·have b:(x.m.step v).1.buf.order=[]:=b;rw [k6] at b;have hp2:p∈(x.m.step v).1.reads++[((x.m.step v).1.cell,Zq (Zq (m.cw x.c1 (x.m.step v).2.cell 1).toNat))]:=hp2;rw [k7,k2,now] at hp2;rcases List.mem_append.1 hp2 with hp2|hp2
   ·exact h.kz (by omega) b p hp2
   ·simp at hp2;subst hp2;refine ⟨⟨k3,by rw [<-hs.mc];exact k4⟩,?_⟩;show Zq (m.zf c1 _)=m.zf c1 _;exact U4 _
  ·show x.part≠9;omega
 |write hk hf e=>
  subst e;obtain ⟨k1,⟨k2,k3⟩,k4,k5,k6,k7⟩:=ms.k3 hk;have hkn:x.m.buf.known (x.m.step v).2.cell=false:=by
   rw [hf] at k5;cases hq:x.m.buf.known (x.m.step v).2.cell with
   |false=>rfl
   |true=>rw [hq] at k5;cases k5
  have ho:(x.m.step v).1.buf.order=x.m.buf.order++[(x.m.step v).2.cell]:=by rw [k4,Qh,Q9 (by simp [hkn])]
  refine ⟨⟨λ a b j j1 j2=>?_,λ a=>?_,λ a=>?_,λ a=>?_,λ a=>?_,λ a b p hp2=>?_⟩,Zh.xn _ _ _ _,?_⟩
  ·show (x.ql++[Zq (m.cw x.c1 (x.m.step v).2.cell 1).toNat]).getD j 0=m.zf c1 ((x.m.step v).1.buf.order.getD j 0);rw [ho,Lx,Lx,hs.ql]
   by_cases e:j=x.m.buf.order.length
   ·rw [P9 e,P9 e,now]
   ·rw [Q9 e,Q9 e];have j2:j < (x.ql++[Zq (m.cw x.c1 (x.m.step v).2.cell 1).toNat]).length:=j2;rw [List.length_append,List.length_singleton,hs.ql] at j2;exact h.ql (by omega) (by omega) j j1 (by rw [hs.ql];omega)
  ·have a:x.part=5:=a;omega
  ·have a:x.part=6:=a;omega
  ·have a:x.part=6:=a;omega
  ·have a:x.part=6:=a;omega
  ·have b:(x.m.step v).1.buf.order=[]:=b;rw [ho] at b;simp at b
  ·show x.part≠9;omega
 |wu hk hh e=>
  subst e;obtain ⟨k1,k2,k3⟩:=ms.k4 hk;refine ⟨⟨λ a b j j1 j2=>?_,λ a c y hc hy hn hlt=>?_,λ a=>?_,λ a=>?_,λ a=>?_,λ a b p hp2=>?_⟩,J,?_⟩
  ·show x.ql.getD j 0=m.zf c1 ((x.m.step v).1.buf.order.getD j 0);rw [k2];exact h.ql (by omega) (by omega) j j1 j2
  ·have hc:I (Kx x.c0 x.c1 x.qg)=I c:=hc;obtain rfl:=Zo_ hc;have hlt:y.thread < 0:=hlt;have:=ht y hy;omega
  ·have a:(5:Int)=6:=a;omega
  ·have a:(5:Int)=6:=a;omega
  ·have a:(5:Int)=6:=a;omega
  ·have b:(x.m.step v).1.buf.order=[]:=b;rw [k2] at b;have hp2:p∈(x.m.step v).1.reads:=hp2;rw [k3] at hp2;exact h.kz (by omega) b p hp2
  ·show (5:Int)≠9;omega
 |stop hk hh e=>
  subst e;obtain ⟨k1,k2,k3⟩:=ms.k4 hk;refine ⟨⟨λ a b=>?_,λ a=>?_,λ a=>?_,λ a=>?_,λ a=>?_,λ a b p hp2=>?_⟩,J,?_⟩
  ·have b:(8:Int)<=6:=b;omega
  ·have a:(8:Int)=5:=a;omega
  ·have a:(8:Int)=6:=a;omega
  ·have a:(8:Int)=6:=a;omega
  ·have a:(8:Int)=6:=a;omega
  ·have b:(x.m.step v).1.buf.order=[]:=b;rw [k2] at b;have hp2:p∈(x.m.step v).1.reads:=hp2;rw [k3] at hp2;exact h.kz (by omega) b p hp2
  ·show (8:Int)≠9;omega
end
section
variable {m m':Zh} {c0 c1:Int} {qe:List Vb} {i v:Nat} {z:Vb} {x x':Zv} {y y':Z8} {raw:Zu} {r:Yu}
theorem Pc (b:Xc) (j:Nat) (h:j < b.order.length):(b.all.getD j (0,0)).1=b.order.getD j 0:=by
 unfold Xc.all;simp [G_,h]
theorem Vs.uk (h:Vs m c0 c1 qe x) (hR:Vn m c0 c1 qe) (o:Pe c0 c1 m qe) (hi:qe[i]? =I ⟨raw,I (.wr x)⟩) (hp:x.part=5) (v:Nat):Vs m c0 c1 qe (x.step m.opened v).1/\(x.step m.opened v).2.ws=m.ws/\(x.step m.opened v).1.part≠9:=by
 have hs:=o.w i raw x hi;have hst:=o.qg i raw x hi (by omega) (by omega);obtain ⟨nx,po,n0,n1,esc,ews,q⟩:=Bs (v:=v) o.k o.len hs hp;have pass:(m.wd (3+nx).toNat=0\/x.qg < m.wd (3+nx).toNat)->∀ y,Kp qe y->y.qh.n=3->y.thread < nx+1->y.qh.st=m.wd 2:=by
  intro hps y hy hn hlt
  by_cases e:y.thread < nx
  ·exact h.scan hp _ y esc hy hn e
  ·have e:y.thread=nx:=by omega
   obtain ⟨j,raw2,hj⟩:=hy;have c1':=hR.cl j raw2 y hj (by omega);have c2:=hR.ud j raw2 y hj (by omega);have c3:=hR.st j raw2 y hj hn;rw [e] at c2;rw [c2] at hps;omega
 have was0:∀ j,x.written<=j->j < x.ql.length->x.ql.getD j 0=m.zf c1 (x.m.buf.order.getD j 0):=h.ql (by omega) (by omega);have kv:=hs.wn (by omega);rcases q with ⟨_,e⟩|⟨hps,hlt,e⟩|⟨hps,hlt,e⟩
 ·rw [e];refine ⟨⟨λ _ _=>was0,λ a c y hc hy hn hl=>?_,λ a=>?_,λ a=>?_,λ a=>?_,λ a=>h.kz (by omega)⟩,ews,by show x.part≠9;omega⟩
  ·have hc:I _=I c:=hc;obtain rfl:=Zo_ hc;exact h.scan hp _ y esc hy hn hl
  ·have a:x.part=6:=a;omega
  ·have a:x.part=6:=a;omega
  ·have a:x.part=6:=a;omega
 ·rw [e];refine ⟨⟨λ _ _=>was0,λ a c y hc hy hn hl=>?_,λ a=>?_,λ a=>?_,λ a=>?_,λ a=>h.kz (by omega)⟩,ews,by show x.part≠9;omega⟩
  ·have hc:I _=I c:=hc;obtain rfl:=Zo_ hc;exact pass hps y hy hn hl
  ·have a:x.part=6:=a;omega
  ·have a:x.part=6:=a;omega
  ·have a:x.part=6:=a;omega
 ·have low:=hR.uv o hi (by omega) (by omega) (by omega);have hrng:∀ j,j < x.ql.length->0<=x.m.buf.order.getD j 0/\x.m.buf.order.getD j 0 < c0:=λ j hj=>hs.bc _ (J0 (by rw [<-hs.ql];exact hj));rw [e]
  by_cases hw:0 < x.ql.length
  ·have ec:Xb {x with scan:=I ⟨0,1,2,3,Z2 c1,Zw c0 c1,c1,x.qg,nx+1,po⟩,part:=if 0 < x.ql.length then 6 else 7}=x.m.buf.order.getD 0 0:=by
    show (x.m.buf.all.getD x.written (0,0)).1=_;rw [kv];exact Pc _ _ (by rw [<-hs.ql];exact hw)
   refine ⟨⟨λ _ _=>was0,λ a=>?_,λ a y hy hn=>?_,λ a j j1 j2=>?_,λ a=>?_,λ a=>h.kz (by omega)⟩,ews,?_⟩
   ·have a:(if 0 < x.ql.length then (6:Int) else 7)=5:=a;rw [P9 hw] at a;omega
   ·refine pass hps y hy hn ?_;obtain ⟨j,raw2,hj⟩:=hy;have:=(o.r j raw2 y hj).t1;omega
   ·exact low _ (hrng j j2).1 (hrng j j2).2
   ·refine ⟨0,by omega,by omega,?_,λ _=>?_,λ a=>by omega,λ a=>by omega⟩
    ·unfold Zv.wr;have hb:x.back=O:=hs.nb (by omega);simp only [hb];rw [hs.k0,hs.k1];rfl
    ·rw [ec];exact low _ (hrng 0 hw).1 (hrng 0 hw).2
   ·show (if 0 < x.ql.length then (6:Int) else 7)≠9;rw [P9 hw];omega
  ·refine ⟨⟨λ _ b=>?_,λ a=>?_,λ a=>?_,λ a=>?_,λ a=>?_,λ a=>h.kz (by omega)⟩,ews,?_⟩
   ·have b:(if 0 < x.ql.length then (6:Int) else 7)<=6:=b;rw [Q9 hw] at b;omega
   ·have a:(if 0 < x.ql.length then (6:Int) else 7)=5:=a;rw [Q9 hw] at a;omega
   ·have a:(if 0 < x.ql.length then (6:Int) else 7)=6:=a;rw [Q9 hw] at a;omega
   ·have a:(if 0 < x.ql.length then (6:Int) else 7)=6:=a;rw [Q9 hw] at a;omega
   ·have a:(if 0 < x.ql.length then (6:Int) else 7)=6:=a;rw [Q9 hw] at a;omega
   ·show (if 0 < x.ql.length then (6:Int) else 7)≠9;rw [Q9 hw];omega
theorem Mz (k:Bc c0 c1) (hl:(m.ws.length:Int)=Zw c0 c1) {d n:Int} (d0:0<=d) (d1:d < c0) (_:0<=n) (_:n < 3) (u:Int):
  (∀ c,0<=c->c≠d->(m.opened.zj (Z2 c1) d (Yk n) u).qs c1 c=m.qs c1 c/\(m.opened.zj (Z2 c1) d (Yk n) u).zf c1 c=m.zf c1 c/\(m.opened.zj (Z2 c1) d (Yk n) u).xj c1 c=m.xj c1 c)/\
  (n=0->(m.opened.zj (Z2 c1) d (Yk n) u).qs c1 d=m.qs c1 d/\(m.opened.zj (Z2 c1) d (Yk n) u).zf c1 d=m.zf c1 d/\(m.opened.zj (Z2 c1) d (Yk n) u).xj c1 d=Zq u.toNat)/\
  (n=1->(m.opened.zj (Z2 c1) d (Yk n) u).qs c1 d=u/\(m.opened.zj (Z2 c1) d (Yk n) u).zf c1 d=m.zf c1 d/\(m.opened.zj (Z2 c1) d (Yk n) u).xj c1 d=m.xj c1 d)/\
  (n=2->(m.opened.zj (Z2 c1) d (Yk n) u).qs c1 d=m.qs c1 d/\(m.opened.zj (Z2 c1) d (Yk n) u).xj c1 d=m.xj c1 d):=by
 have hw:0<=Yk n/\Yk n<=2:=by unfold Yk;split <;> (try split) <;> omega
 have C:∀ c j,0<=c->0<=j->j<=2->(m.opened.zj (Z2 c1) d (Yk n) u).cw c1 c j=if c=d/\j=Yk n then u else m.cw c1 c j:=λ c j a b e=>W9 k hl d0 d1 hw.1 hw.2 a b e u
 unfold Zh.qs Zh.zf Zh.xj;refine ⟨λ c a b=>?_,λ e=>?_,λ e=>?_,λ e=>?_⟩
 ·rw [C c 0 a (by omega) (by omega),C c 1 a (by omega) (by omega),C c 2 a (by omega) (by omega),Q9 (λ h=>b h.1),Q9 (λ h=>b h.1),Q9 (λ h=>b h.1)];exact ⟨J,J,J⟩
 ·have ew:Yk n=2:=by unfold Yk;rw [P9 e]
  rw [C d 0 d0 (by omega) (by omega),C d 1 d0 (by omega) (by omega),C d 2 d0 (by omega) (by omega),ew,Q9 (by omega),Q9 (by omega),P9 ⟨rfl,rfl⟩];exact ⟨J,J,J⟩
 ·have ew:Yk n=0:=by unfold Yk;rw [Q9 (by omega),P9 e]
  rw [C d 0 d0 (by omega) (by omega),C d 1 d0 (by omega) (by omega),C d 2 d0 (by omega) (by omega),ew,P9 ⟨rfl,rfl⟩,Q9 (by omega),Q9 (by omega)];exact ⟨J,J,J⟩
 ·have ew:Yk n=1:=by unfold Yk;rw [Q9 (by omega),Q9 (by omega)]
  rw [C d 0 d0 (by omega) (by omega),C d 2 d0 (by omega) (by omega),ew,Q9 (by omega),Q9 (by omega)];exact ⟨J,J⟩
end
section
variable {m m':Zh} {c0 c1:Int} {qe:List Vb} {i v:Nat} {z:Vb} {x x':Zv} {y y':Z8} {raw:Zu} {r:Yu}
theorem wr0_inj {n k:Int} (h:x.kv c0 c1 n=x.kv c0 c1 k):n=k:=congrArg X1.n h
theorem Vs.put (h:Vs m c0 c1 qe x) (o:Pe c0 c1 m qe) (hi:qe[i]? =I ⟨raw,I (.wr x)⟩) (hp:x.part=6) (v:Nat):
  (x.step m.opened v).2.wd 2=m.wd 2/\(∀ n:Nat,(n:Int) < 3+c1->(x.step m.opened v).2.wd n=m.wd n)/\(∀ c,0<=c->c < c0->Jq m (x.step m.opened v).2 c1 c (m.wd 2))/\
  ((∀ c,0<=c->c < c0->m.qs c1 c<=m.wd 2+1)->∀ c,0<=c->c < c0->(x.step m.opened v).2.qs c1 c<=m.wd 2+1)/\
  ((x.step m.opened v).1.part=6\/(x.step m.opened v).1.part=7)/\Vs (x.step m.opened v).2 c0 c1 qe (x.step m.opened v).1:=by
 have hs:=o.w i raw x hi;have hst:=o.qg i raw x hi (by omega) (by omega);have hsm:=o.small;have b0:=o.k.b0;obtain ⟨hlt,-⟩:=hs.wr hp;obtain ⟨d0,d1⟩:=hs.cell hp;obtain ⟨n,n0,n3,en,em,q⟩:=Ku (v:=v) o.k o.len hs hp;obtain ⟨n',q0,q3,en',v1,v2,v3⟩:=h.now hp;obtain rfl:n'=n:=wr0_inj (en'.symm.trans en);have hlo:x.written < x.m.buf.order.length:=by rw [<-hs.ql];exact hlt
 have ecell:Xb x=x.m.buf.order.getD x.written 0:=Pc _ _ hlo;have eu:u64 (x.qg+1)=m.wd 2+1:=by rw [hst];exact J8 (by omega) (by omega)
 obtain ⟨P,P0,P1,P2⟩:=Mz (m:=m) o.k o.len (d:=Xb x) (n:=n') d0 d1 n0 n3 (Bi x n');rw [<-em] at P P0 P1 P2;have K:∀ n:Nat,(n:Int) < 3+c1->(x.step m.opened v).2.wd n=m.wd n:=λ n hn=>by
  rw [em];exact Zh.vz _ _ (by unfold Z2;omega) (by unfold Yk;split <;> (try split) <;> omega)
 have hwas:=h.ql (by omega) (by omega);have now0:x.ql.getD x.written 0=m.zf c1 (Xb x):=by rw [ecell];exact hwas _ (Nat.le_refl _) hlt
 have val0:n'=0->Zq (Bi x n').toNat=m.zf c1 (Xb x):=by
  intro e;unfold Bi;rw [P9 e,now0];show Zq (Zq (m.zf c1 (Xb x)))=_;rw [U4];exact U4 _
 have val1:n'=1->Bi x n'=m.wd 2+1:=by
  intro e;unfold Bi;rw [Q9 (by omega),P9 e,eu]
 have other:∀ j,j < x.ql.length->j≠x.written->x.m.buf.order.getD j 0≠Xb x/\0<=x.m.buf.order.getD j 0/\x.m.buf.order.getD j 0 < c0:=by
  intro j hj hne;have hj':j < x.m.buf.order.length:=by rw [<-hs.ql];exact hj
  refine ⟨λ e=>hne ?_,hs.bc _ (J0 hj')⟩;rw [ecell,G_,G_,List.getElem?_eq_getElem hj',List.getElem?_eq_getElem hlo] at e;exact (List.getElem_inj hs.buf.nd).1 (by simpa using e)
 have K2:(x.step m.opened v).2.wd 2=m.wd 2:=K 2 (by omega);refine ⟨K2,K,λ c a b=>?_,λ hv c a b=>?_,?_,?_⟩
 ·by_cases e:c=Xb x
  ·subst e;rcases (show n'=0\/n'=1\/n'=2 by omega) with e|e|e
   ·obtain ⟨p1,p2,p3⟩:=P0 e;exact .jl (v1 (by omega)) p1 p2
   ·obtain ⟨p1,p2,p3⟩:=P1 e;exact .mark (v1 (by omega)) (v2 (by omega)) (by rw [p1,val1 e]) p3
   ·obtain ⟨p1,p2⟩:=P2 e;exact .put (v3 e) (by rw [p1,v3 e]) p2
  ·obtain ⟨p1,p2,p3⟩:=P c a e;exact .same p1 p2 p3
 ·by_cases e:c=Xb x
  ·subst e;rcases (show n'=0\/n'=1\/n'=2 by omega) with e|e|e
   ·rw [(P0 e).1];exact hv _ a b
   ·rw [(P1 e).1,val1 e];omega
   ·rw [(P2 e).1];exact hv _ a b
  ·rw [(P c a e).1];exact hv c a b
 ·rcases q with ⟨_,e⟩|⟨_,_,e⟩|⟨_,_,e⟩
  ·rw [e];exact .inl hp
  ·rw [e];exact .inl hp
  ·rw [e];exact .inr J
 ·have kz:x.m.buf.order≠[]:=λ e=>by rw [e] at hlo;simp at hlo
  have al:=h.all hp;have rest:=h.rest hp;rcases q with ⟨hn,e⟩|⟨hn,hl2,e⟩|⟨hn,hl2,e⟩
  ·rw [e];refine ⟨λ _ _ j j1 j2=>?_,λ a=>?_,λ _ y hy hc=>by rw [K2];exact al y hy hc,λ _ j j1 j2=>?_,λ _=>?_,λ _ b=>absurd b kz⟩
   ·show x.ql.getD j 0=(x.step m.opened v).2.zf c1 (x.m.buf.order.getD j 0)
    by_cases ej:j=x.written
    ·subst ej;rw [<-ecell,now0];rcases (show n'=0\/n'=1 by omega) with e|e
     ·exact (P0 e).2.1.symm
     ·exact (P1 e).2.1.symm
    ·obtain ⟨o1,o2,o3⟩:=other j j2 ej;rw [(P _ o2 o1).2.1];exact hwas j j1 j2
   ·have a:x.part=5:=a;omega
   ·have j1:x.written < j:=j1;obtain ⟨o1,o2,o3⟩:=other j j2 (by omega);show (x.step m.opened v).2.qs c1 (x.m.buf.order.getD j 0)<=(x.step m.opened v).2.wd 2;rw [(P _ o2 o1).1,K2];exact rest j j1 j2
   ·refine ⟨n'+1,by omega,by omega,rfl,λ hle=>?_,λ _=>?_,λ h2=>?_⟩
    ·show (x.step m.opened v).2.qs c1 (Xb x)<=(x.step m.opened v).2.wd 2;rw [(P0 (by omega)).1,K2];exact v1 (by omega)
    ·show (x.step m.opened v).2.xj c1 (Xb x)=(x.step m.opened v).2.zf c1 (Xb x);rcases (show n'=0\/n'=1 by omega) with e|e
     ·rw [(P0 e).2.2,(P0 e).2.1,val0 e]
     ·rw [(P1 e).2.2,(P1 e).2.1];exact v2 (by omega)
    ·show (x.step m.opened v).2.qs c1 (Xb x)=(x.step m.opened v).2.wd 2+1;rw [(P1 (by omega)).1,val1 (by omega),K2]
  ·rw [e];have hlo2:x.written+1 < x.m.buf.order.length:=by rw [<-hs.ql];exact hl2
   refine ⟨λ _ _ j j1 j2=>?_,λ a=>?_,λ _ y hy hc=>by rw [K2];exact al y hy hc,λ _ j j1 j2=>?_,λ _=>?_,λ _ b=>absurd b kz⟩
   ·have j1:x.written+1<=j:=j1;obtain ⟨o1,o2,o3⟩:=other j j2 (by omega);show x.ql.getD j 0=(x.step m.opened v).2.zf c1 (x.m.buf.order.getD j 0);rw [(P _ o2 o1).2.1];exact hwas j (by omega) j2
   ·have a:x.part=5:=a;omega
   ·have j1:x.written+1 < j:=j1;obtain ⟨o1,o2,o3⟩:=other j j2 (by omega);show (x.step m.opened v).2.qs c1 (x.m.buf.order.getD j 0)<=(x.step m.opened v).2.wd 2;rw [(P _ o2 o1).1,K2];exact rest j (by omega) j2
   ·obtain ⟨o1,o2,o3⟩:=other (x.written+1) hl2 (by omega);refine ⟨0,by omega,by omega,?_,λ _=>?_,λ a=>by omega,λ a=>by omega⟩
    ·unfold Zv.wr;simp only;rw [hs.k0,hs.k1];rfl
    ·show (x.step m.opened v).2.qs c1 (x.m.buf.all.getD (x.written+1) (0,0)).1<=(x.step m.opened v).2.wd 2;rw [Pc _ _ hlo2,(P _ o2 o1).1,K2];exact rest _ (by omega) hl2
  ·rw [e];refine ⟨λ _ b=>?_,λ a=>?_,λ a=>?_,λ a=>?_,λ a=>?_,λ _ b=>absurd b kz⟩
   ·have b:(7:Int)<=6:=b;omega
   ·have a:(7:Int)=5:=a;omega
   ·have a:(7:Int)=6:=a;omega
   ·have a:(7:Int)=6:=a;omega
   ·have a:(7:Int)=6:=a;omega
theorem Vn.kh (h:Vn m c0 c1 qe) (o:Pe c0 c1 m qe) (hi:qe[i]? =I ⟨raw,I (.wr x)⟩) (v:Nat) (hz:(z.g=I (.wr (x.step m.opened v).1)/\(x.step m.opened v).1.part≠9)\/(z.g=O/\(x.step m.opened v).1.part=9/\z.raw.reads=(x.step m.opened v).1.m.reads/\z.raw.writes=(x.step m.opened v).1.m.buf.all/\z.raw.tag=2)):Vn (x.step m.opened v).2 c0 c1 (qe.set i z):=by
 have hs:=o.w i raw x hi;have hv:=h.wr i raw x hi;have b0:=o.k.b0;have p1:=hs.p1;have p8:=hs.p8;have hsm:=o.small;have lo:∀ n:Int,0<=n->n < 3+c1->n < m.ws.length:=λ n a b=>Ve o.k o.len n a b;have hzr:∀ x',z.g=I (.wr x')->x'=(x.step m.opened v).1:=by
  intro x' e;rcases hz with ⟨e2,_⟩|⟨e2,_⟩
  ·rw [e2] at e;simp at e;exact e.symm
  ·rw [e2] at e;cases e
 have hzy:∀ y,z.g≠I (.rd y):=by
  intro y e;rcases hz with ⟨e2,_⟩|⟨e2,_⟩
  ·rw [e2] at e;cases e
  ·rw [e2] at e;cases e
 have main:x.part<=5->V1 m (x.step m.opened v).2 c0 c1->(∀ n:Nat,2<=n->(n:Int) < 3+c1->(x.step m.opened v).2.wd n=m.wd n)->Vs (x.step m.opened v).2 c0 c1 qe (x.step m.opened v).1->(x.step m.opened v).1.part≠9->Vn (x.step m.opened v).2 c0 c1 (qe.set i z):=by
  intro h5 sm w hw h9;have k2:=w 2 (by omega) (by omega);refine h.writer o hi (by omega) (.inl k2) (λ n a b=>w n (by omega) b) (λ c st a b _=>sm.change a b) (λ _=>sm) (λ c a b=>by rw [(sm c a b).1,k2];exact h.yo c a b) (.inr (.inr ⟨h5,k2⟩)) (.inr k2) (λ x' e=>by rw [hzr x' e];exact hw) hzy (λ e=>?_);rcases hz with ⟨e2,_⟩|⟨_,e2,_⟩
  ·rw [e2] at e;cases e
  ·exact absurd e2 h9
 rcases (show x.part=1\/x.part=2\/x.part=3\/x.part=4\/x.part=5\/x.part=6\/x.part=7\/x.part=8 by omega) with hp|hp|hp|hp|hp|hp|hp|hp
 ·have e:=Nf (v:=v) o.k o.len hp;have w:∀ n:Nat,n≠0->(x.step m.opened v).2.wd n=m.wd n:=λ n hn=>by
   rw [e];show (m.opened.add 0 1).wd n=_;rw [Zh.ke (by omega) (lo 0 (by omega) (by omega)),Q9 (by omega)]
  exact main (by omega) (Qu b0 (λ n hn=>w n (by omega))) (λ n a _=>w n (by omega)) (Vs.low (by rw [e];show (2:Int)<=3;omega)) (by rw [e];show (2:Int)≠9;omega)
 ·have e:=Nd (v:=v) o.k o.len hp;have ews:(x.step m.opened v).2.ws=m.ws:=by rw [e];exact Zh.zp _ _
  have w:∀ n:Nat,(x.step m.opened v).2.wd n=m.wd n:=λ n=>by unfold Zh.wd;rw [ews]
  have ep:(x.step m.opened v).1.part<=3:=by rw [e];show (if m.wd 1=x.qc then (3:Int) else 2)<=3;split <;> omega
  exact main (by omega) (Qc ews) (λ n _ _=>w n) (Vs.low ep) (by omega)
 ·have e:=Nc (v:=v) o.k o.len hp;have ews:(x.step m.opened v).2.ws=m.ws:=by rw [e];exact Zh.zp _ _
  have w:∀ n:Nat,(x.step m.opened v).2.wd n=m.wd n:=λ n=>by unfold Zh.wd;rw [ews]
  obtain ⟨l1,l2,l3⟩:=hs.low (by omega);have lw:x.ql.length=0:=by rw [hs.ql,l2];rfl
  refine main (by omega) (Qc ews) (λ n _ _=>w n) ?_ (by rw [e];show (4:Int)≠9;omega);rw [e];refine ⟨λ _ _ j _ j2=>?_,λ a=>?_,λ a=>?_,λ a=>?_,λ a=>?_,λ _ _ p hp2=>?_⟩
  ·have j2:j < x.ql.length:=j2;omega
  ·have a:(4:Int)=5:=a;omega
  ·have a:(4:Int)=6:=a;omega
  ·have a:(4:Int)=6:=a;omega
  ·have a:(4:Int)=6:=a;omega
  ·have hp2:p∈x.m.reads:=hp2;rw [l1] at hp2;cases hp2
 ·have q:=hv.ran hs hp (λ y hy=>by obtain ⟨j,raw2,hj⟩:=hy;exact (o.r j raw2 y hj).t0) (Kv o.k o.len hs hp v);have w:∀ n:Nat,(x.step m.opened v).2.wd n=m.wd n:=λ n=>by unfold Zh.wd;rw [q.2.1]
  have sm:V1 m (x.step m.opened v).2 c0 c1:=Qc q.2.1;refine main (by omega) sm (λ n _ _=>w n) ?_ q.2.2;rcases Jv.step o.k o.len hs v with ⟨e8,_⟩|hs1
  ·omega
  ·exact q.1.same hs1.bc hs1.ql (λ a=>hs1.cell a) sm (w 2) (λ y hy _=>.inl ⟨y,hy,J,J⟩)
 ·have q:=hv.uk h o hi hp v;have w:∀ n:Nat,(x.step m.opened v).2.wd n=m.wd n:=λ n=>by unfold Zh.wd;rw [q.2.1]
  have sm:V1 m (x.step m.opened v).2 c0 c1:=Qc q.2.1;refine main (by omega) sm (λ n _ _=>w n) ?_ q.2.2;rcases Jv.step o.k o.len hs v with ⟨e8,_⟩|hs1
  ·omega
  ·exact q.1.same hs1.bc hs1.ql (λ a=>hs1.cell a) sm (w 2) (λ y hy _=>.inl ⟨y,hy,J,J⟩)
 ·obtain ⟨k2,w,ch,yo,pt,wv⟩:=hv.put o hi hp v;refine h.writer o hi (by omega) (.inl k2) (λ n _ b=>w n b) (λ c st a b hst=>by rw [hst hp];exact ch c a b) (λ a=>absurd hp a) (λ c a b=>by rw [k2];exact yo h.yo c a b) ?_ (.inl (by omega)) (λ x' e=>by rw [hzr x' e];exact wv) hzy (λ e=>?_)
  ·rcases hz with ⟨e2,_⟩|⟨_,e2,_⟩
   ·exact .inr (.inl ⟨_,e2,pt⟩)
   ·omega
  ·rcases hz with ⟨e2,_⟩|⟨_,e2,_⟩
   ·rw [e2] at e;cases e
   ·omega
 ·have e:=Nb (s:=m) (v:=v) hp;have hst:=o.qg i raw x hi (by omega) (by omega);have eu:u64 (x.qg+1)=m.wd 2+1:=by rw [hst];exact J8 (by omega) (by omega)
  have w:∀ n:Nat,(x.step m.opened v).2.wd n=if 2=n then m.wd 2+1 else m.wd n:=λ n=>by
   rw [e];show (m.opened.store 2 (u64 (x.qg+1))).wd n=_;rw [eu];exact Zh.zv (by omega) (lo 2 (by omega) (by omega)) _ n
  have k2:(x.step m.opened v).2.wd 2=m.wd 2+1:=by rw [w,P9 rfl]
  have sm:V1 m (x.step m.opened v).2 c0 c1:=Qu b0 (λ n hn=>by rw [w,Q9 (by omega)]);refine h.writer o hi (by omega) (.inr hp) (λ n a b=>by rw [w,Q9 (by omega)]) (λ c st a b _=>sm.change a b) (λ _=>sm) (λ c a b=>?_) (.inl (λ c a b=>?_)) (.inl (by omega)) (λ x' e'=>?_) hzy (λ e'=>?_)
  ·have:=h.yo c a b;rw [(sm c a b).1,k2];omega
  ·have:=h.yo c a b;rw [(sm c a b).1,k2];omega
  ·rw [hzr x' e',e];refine ⟨λ _ b=>?_,λ a=>?_,λ a=>?_,λ a=>?_,λ a=>?_,λ _ b p hp2=>?_⟩
   ·have b:(8:Int)<=6:=b;omega
   ·have a:(8:Int)=5:=a;omega
   ·have a:(8:Int)=6:=a;omega
   ·have a:(8:Int)=6:=a;omega
   ·have a:(8:Int)=6:=a;omega
   ·obtain ⟨⟨q1,q2⟩,q3⟩:=hv.kz (by omega) b p hp2;rw [e] at sm;exact ⟨⟨q1,q2⟩,by rw [(sm _ q1 q2).2.1];exact q3⟩
  ·rcases hz with ⟨e2,_⟩|⟨_,e2,_⟩
   ·rw [e2] at e';cases e'
   ·rw [e] at e2;have e2:(8:Int)=9:=e2;omega
 ·have e:=Na (s:=m) (v:=v) hp;have w:∀ n:Nat,n≠1->(x.step m.opened v).2.wd n=m.wd n:=λ n hn=>by
   rw [e];exact Zh.xp _ (by omega)
  have k2:=w 2 (by omega);have sm:V1 m (x.step m.opened v).2 c0 c1:=Qu b0 (λ n hn=>w n (by omega));refine h.writer o hi (by omega) (.inl k2) (λ n a b=>w n (by omega)) (λ c st a b _=>sm.change a b) (λ _=>sm) (λ c a b=>by rw [(sm c a b).1,k2];exact h.yo c a b) (.inl (λ c a b=>by rw [(sm c a b).1,k2];exact h.uv o hi (by omega) (by omega) (by omega) c a b)) (.inl (by omega)) (λ x' e'=>?_) hzy (λ _=>?_)
  ·rcases hz with ⟨_,e2⟩|⟨e2,_⟩
   ·rw [e] at e2;exact absurd J e2
   ·rw [e2] at e';cases e'
  ·rcases hz with ⟨_,e2⟩|⟨_,_,e3,e4,e5⟩
   ·rw [e] at e2;exact absurd J e2
   ·by_cases hb:x.m.buf.order=[]
    ·right;rw [e3,e];intro p hp2 q hq he;rw [(hv.kz (by omega) hb p hp2).2,(hv.kz (by omega) hb q hq).2,he]
    ·left;refine ⟨e5,?_⟩;rw [e4,e];show x.m.buf.all≠[];unfold Xc.all;simpa using hb
end
section
variable {m m':Zh} {c0 c1:Int} {qe:List Vb} {i v t:Nat} {z:Vb} {x x':Zv} {y y':Z8} {raw:Zu} {s:Zn}
theorem Qa.ui (h:Qa s) (k:Yi s):Pe s.c0 s.c1 s.mem s.qe:=by
 refine ⟨k.cfg,k.len,λ i raw x hi=>?_,λ i raw y hi=>?_,λ i j r1 r2 y1 y2 h1 h2 e=>?_,λ i j r1 r2 x1 x2 h1 h2 p q=>h.alone h1 h2 p q,h.w,(h.small k).2.2⟩
 ·obtain ⟨t,ht,_,_,g⟩:=k.tx i raw _ hi;exact g
 ·obtain ⟨t,ht,_,_,g⟩:=k.tx i raw _ hi;have g:Ks s.c0 s.c1 t y:=g;rw [g.th];exact g
 ·obtain ⟨t1,ht1,hc1,_,g1⟩:=k.tx i _ _ h1;obtain ⟨t2,ht2,hc2,_,g2⟩:=k.tx j _ _ h2;have g1:Ks s.c0 s.c1 t1 y1:=g1;have g2:Ks s.c0 s.c1 t2 y2:=g2;rw [g1.th,g2.th] at e;have e:t1=t2:=by omega
  subst e;rw [hc1] at hc2;exact Zo_ hc2
theorem Vn.push (h:Vn m c0 c1 qe) (hz:(∃ x,z.g=I (.wr x)/\x.part=1)\/(∃ y,z.g=I (.rd y)/\y.qh.n=0)):Vn m c0 c1 (qe++[z]):=by
 have T:∀ (j:Nat) (u:Vb),(qe++[z])[j]? =I u->qe[j]? =I u\/u=z:=by
  intro j u hj;rw [List.getElem?_append] at hj;split at hj
  ·exact .inl hj
  ·rw [List.getElem?_singleton] at hj;split at hj
   ·exact .inr (Zo_ hj).symm
   ·cases hj
 have zr:∀ y raw,(⟨raw,I (.rd y)⟩:Vb)=z->y.qh.n=0:=by
  intro y raw e;subst e;rcases hz with ⟨x,e,_⟩|⟨y',e,hn⟩
  ·cases e
  ·simp at e;rw [e];exact hn
 have zw:∀ x raw,(⟨raw,I (.wr x)⟩:Vb)=z->x.part=1:=by
  intro x raw e;subst e;rcases hz with ⟨x',e,hn⟩|⟨y',e,_⟩
  ·simp at e;rw [e];exact hn
  ·cases e
 refine ⟨h.yo,?_,λ j raw y hj hn=>?_,λ j raw y hj hn=>?_,λ j raw y hj hn=>?_,λ j raw y hj hn=>?_,λ j raw x hj=>?_,λ j raw hj=>?_⟩
 ·rcases h.low with q|⟨j,raw,x,hj,hp⟩
  ·exact .inl q
  ·right;refine ⟨j,raw,x,?_,hp⟩;have:=(List.getElem?_eq_some_iff.1 hj).1;rw [List.getElem?_append_left this];exact hj
 ·rcases T j _ hj with q|q
  ·exact h.cl j raw y q hn
  ·have:=zr y raw q;omega
 ·rcases T j _ hj with q|q
  ·exact h.ud j raw y q hn
  ·have:=zr y raw q;omega
 ·rcases T j _ hj with q|q
  ·exact h.st j raw y q hn
  ·have:=zr y raw q;omega
 ·rcases T j _ hj with q|q
  ·exact h.rd j raw y q hn
  ·have:=zr y raw q;omega
 ·have R:∀ y,Kp (qe++[z]) y->y.qh.n=3->Kp qe y:=by
   rintro y ⟨k,raw2,hk⟩ hn;rcases T k _ hk with q|q
   ·exact ⟨k,raw2,q⟩
   ·have:=zr y raw2 q;omega
  rcases T j _ hj with q|q
  ·have w:=h.wr j raw x q;exact ⟨w.ql,λ a c y b hy hn=>w.scan a c y b (R y hy hn) hn,λ a y hy hn=>w.all a y (R y hy hn) hn,w.rest,w.now,w.kz⟩
  ·exact Vs.low (by have:=zw x raw q;omega)
 ·rcases T j _ hj with q|q
  ·exact h.jl j raw q
  ·subst q;rcases hz with ⟨x,e,_⟩|⟨y,e,_⟩
   ·cases e
   ·cases e
def Zn.RI (s:Zn):Prop:=Vn s.mem s.c0 s.c1 s.qe
theorem Zn.RI.ready (h:s.RI) (t:Nat):(s.ready t).RI:=by
 unfold Zn.ready;split
 ·show Vn s.mem s.c0 s.c1 (s.qe++[_]);refine Vn.push h ?_;show (∃ x,I (Zn.xb {s with steps:=s.steps+1} t)=I (.wr x)/\x.part=1)\/(∃ y,I (Zn.xb {s with steps:=s.steps+1} t)=I (.rd y)/\y.qh.n=0);unfold Zn.xb;split
  ·exact .inl ⟨_,J,J⟩
  ·exact .inr ⟨_,J,J⟩
 ·exact h
theorem Zn.RI.step (h:s.RI) (hs:Qa s) (k:Yi s) (ht:t < s.qi.length) (hn:s.steps+1 < 1000000000) (v:Nat):(s.step t v).RI:=by
 unfold Zn.step;cases hf:(s.th t).fin with
 |true=>rw [P9 rfl];exact h
 |false=>
  rw [Q9 (by simp)];obtain ⟨hr,hl,i,hc⟩:=k.ready ht hf;have ht':t < (s.ready t).qi.length:=by rw [hl];exact ht
  obtain ⟨raw,g,hx,_⟩:=hr.cur t i ht' hc;rw [Ux hc hx];have hi:=h.ready t;have hsr:=hs.ready t hn;have o:=hsr.ui hr;generalize s.ready t=q at *
  unfold Zn.zc;obtain ⟨u,hu,_,_,gs⟩:=hr.tx i raw g hx;cases g with
  |wr x=>
   have gs:Jv q.c0 q.c1 x:=gs;split
   ·rename_i ho;have ho:((x.step q.mem.opened v).1.part==9)=true:=ho;show Vn (x.step q.mem.opened v).2 q.c0 q.c1 _;refine Vn.kh hi o hx v (.inr ⟨J,by simpa using ho,rfl,rfl,?_⟩);show (x.step q.mem.opened v).1.tag=2;rcases Jv.step o.k o.len gs v with ⟨_,e⟩|e
    ·rw [e];exact gs.tag
    ·exact e.tag
   ·rename_i ho;have ho:¬ ((x.step q.mem.opened v).1.part==9)=true:=ho;show Vn (x.step q.mem.opened v).2 q.c0 q.c1 _;exact Vn.kh hi o hx v (.inl ⟨J,by simpa using ho⟩)
  |rd y=>
   split
   ·rename_i ho;have ho:((y.step q.mem.opened v).1.part==4)=true:=ho;show Vn (y.step q.mem.opened v).2 q.c0 q.c1 _;exact Vn.kk hi o hx v (.inr ⟨J,by simpa using ho,rfl⟩)
   ·rename_i ho;have ho:¬ ((y.step q.mem.opened v).1.part==4)=true:=ho;show Vn (y.step q.mem.opened v).2 q.c0 q.c1 _;exact Vn.kk hi o hx v (.inl ⟨J,by simpa using ho⟩)
end
section
variable {c0 c1 c2 c3:Int} {start:List Nat} {progs:List (Int×List Xg)} {cs:List (List (Int×List Nat))} {w w0:W} {x:Nat} {e0 s:Zn} {ts:List Nat}
theorem Nj (s:Zh) (p4 c:Int) (h4:0<=p4) (hc:0<=c) (xs:List Nat) (h0:s.wd (p4+3 * c).toNat=0):∀ k,(Vp s p4 xs k).wd (p4+3 * c).toNat=0
 |0=>h0
 |k+1=>by
  have P:∀ (s:Zh) (i v:Int),i≠p4+3 * c->0<=i->(s.jy i v).wd (p4+3 * c).toNat=s.wd (p4+3 * c).toNat:=by
   intro s i v hi h0;unfold Zh.jy;split
   ·rw [Zh.j7,Q9 (by omega)]
   ·rfl
  have qZ:∀ (s:Zh) (i:Int),s.wd (p4+3 * c).toNat=0->(s.jy i 0).wd (p4+3 * c).toNat=0:=by
   intro s i h;unfold Zh.jy;split
   ·rw [Zh.j7];split
    ·rfl
    ·exact h
   ·exact h
  rw [Vp];refine qZ _ _ ?_;rw [P _ _ _ (by omega) (by omega)];exact qZ _ _ (Nj s p4 c h4 hc xs h0 k)
theorem Wr (hc:Y1 c0 c1 c2 c3):(Vt c0 c1 c2 c3 start progs cs).RI:=by
 have h1:1<=c1:=hc.2.2.1;have hv:∀ c,0<=c->c < c0->(Vt c0 c1 c2 c3 start progs cs).mem.qs c1 c=0:=by
  intro c a b;show (Qx (.fresh (Zw c0 c1).toNat) (Z2 c1) start).wd (Z2 c1+3 * c+0).toNat=0;rw [Int.add_zero];have e:(Zh.fresh (Zw c0 c1).toNat).wd (Z2 c1+3 * c).toNat=0:=by
   unfold Zh.wd Zh.fresh;rw [G_,List.getElem?_replicate];split <;> rfl
  unfold Qx;split
  ·exact Nj _ _ _ (by unfold Z2;omega) a _ e _
  ·exact e
 have hw:=Fs (start:=start) (progs:=progs) (cs:=cs) hc 2 (by omega);refine ⟨λ c a b=>?_,.inl (λ c a b=>?_),λ i raw y hi=>?_,λ i raw y hi=>?_,λ i raw y hi=>?_,λ i raw y hi=>?_,λ i raw x hi=>?_,λ i raw hi=>?_⟩
 ·have:=hv c a b;show (Vt c0 c1 c2 c3 start progs cs).mem.qs c1 c<=_;rw [this,hw];omega
 ·have:=hv c a b;show (Vt c0 c1 c2 c3 start progs cs).mem.qs c1 c<=_;rw [this,hw];omega
 ·cases hi
 ·cases hi
 ·cases hi
 ·cases hi
 ·cases hi
 ·cases hi
end
end Go.Proofs.YtkhonmhnchdpkaaGreat
