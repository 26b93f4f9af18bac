/- A part of the proof; no condition. -/
import Derived.Test.YtkhonmhnchdpkaaGreatB00
import Derived.Deep.RegionWith
set_option maxRecDepth 100000
set_option maxHeartbeats 40000000
namespace Go.Proofs.YtkhonmhnchdpkaaGreat
open Go.RowKit _root_.Go.Proofs.Tryz
open Go renaming World→W
open Value renaming int→U,pointer→E,float→Z,agg→A9
open IntKind renaming i64→Y,u64→Y9
open FloatKind renaming f64→V
open Obj renaming cells→X
open Option renaming some→I,none→O
open Ending renaming returned→R9
open _root_.Go.Proofs.Tryz renaming prog→N
section
theorem Pd (s:Zh) (i:Int):(i < 0/\s.acc i=30)\/(∃ k:Nat,i=k/\s.ws.length<=k/\s.acc i=30)\/(∃ k:Nat,i=k/\k < s.ws.length/\s.op=false/\s.acc i=31)\/(∃ k:Nat,i=k/\k < s.ws.length/\s.op=true/\s.acc i=0):=by
 unfold Zh.acc
 by_cases h:i < 0
 ·left;simp [h]
 ·right;obtain ⟨k,rfl⟩:=Int.eq_ofNat_of_zero_le (by omega:0<=i)
  by_cases h2:s.ws.length<=k
  ·left;exact ⟨k,J,h2,by rw [P9 (by omega)]⟩
  ·right;cases ho:s.op
   ·left;exact ⟨k,J,by omega,rfl,by rw [Q9 (by omega)];simp⟩
   ·right;exact ⟨k,J,by omega,rfl,by rw [Q9 (by omega)];simp⟩
theorem Pb (s:Zh) (i:Int):(i < 0/\s.bad i=30)\/(∃ k:Nat,i=k/\s.ws.length<=k/\s.bad i=30)\/(∃ k:Nat,i=k/\k < s.ws.length/\s.bad i=0):=by
 unfold Zh.bad
 by_cases h:i < 0
 ·left;simp [h]
 ·right;obtain ⟨k,rfl⟩:=Int.eq_ofNat_of_zero_le (by omega:0<=i)
  by_cases h2:s.ws.length<=k
  ·left;exact ⟨k,J,h2,by rw [P9 (by omega)]⟩
  ·right;exact ⟨k,J,by omega,by rw [Q9 (by omega)]⟩
end
section
theorem Un {a b:Nat} {s:Zh} {w:W} (hM:Zj 137 w a b s) (i:Int):
  Calls N 138 #[E (I ⟨a,0,O⟩),U Y i] w λ e w'=>e=R9 (.tuple #[U Y9 (s.xv i),U Y (s.acc i)])/\Zj 137 w' a b (s.load i)/\Ze [a,b] w w':=by
 have ha:=hM.jf;have hb:=hM.je;have hn:=hM.len;have hne:=hM.ne;obtain ⟨h0,h1,h2,f1,f2⟩:=hM.cells;rcases Pd s i with ⟨hi,hc⟩|⟨k,rfl,hk,hc⟩|⟨k,rfl,hk,ho,hc⟩|⟨k,rfl,hk,ho,hc⟩
 ·have Hc:=Zh_ hc;clear hc;go_enter func138,ntmps138;go_wp2;go_ret2;have hc:=Hc.out;exact ⟨by simp [Zh.xv,hc],by simpa [Zh.load,hc] using (hM.alloc _),(Zr_ _ _).alloc _⟩
 ·have Hc:=Zh_ hc;clear hc;go_enter func138,ntmps138;go_wp2;go_ret2;have hc:=Hc.out;exact ⟨by simp [Zh.xv,hc],by simpa [Zh.load,hc] using (hM.alloc _),(Zr_ _ _).alloc _⟩
 ·have Hc:=Zh_ hc;clear hc;rw [ho] at h1;have Ho:=Zh_ ho;clear ho;go_enter func138,ntmps138;go_wp2;go_ret2;have hc:=Hc.out;exact ⟨by simp [Zh.xv,hc],by simpa [Zh.load,hc] using (hM.alloc _),(Zr_ _ _).alloc _⟩
 ·have Hc:=Zh_ hc;clear hc;rw [ho] at h1;have Ho:=Zh_ ho;clear ho;obtain ⟨hx,fx⟩:=hM.word hk;obtain ⟨x,hxe⟩:∃ x,x=s.ws.getD k 0:=⟨_,J⟩;rw [<-hxe] at hx;have Hx:=Zh_ hxe;clear hxe;go_enter func138,ntmps138;go_wp2;go_end0;go_wp2;go_ret2;have hc:=Hc.out;have hxe:=Hx.out;exact ⟨by simp [Zh.xv,Zh.at,hc,hxe],by simpa [Zh.load,hc] using hM.jb.alloc _,(by repeat (first|exact Zr_ _ _|refine Ze.drew ?_|refine Ze.alloc ?_ _|refine Ze.wj ?_ _ _|refine Ze.wi ?_ _ _))⟩
end
section
theorem Vo {a b:Nat} {s:Zh} {w:W} (hM:Zj 137 w a b s) (i v:Int):
  Calls N 148 #[E (I ⟨a,0,O⟩),U Y i,U Y9 v] w λ e w'=>e=R9 (U Y (s.acc i))/\Zj 137 w' a b (s.store i v)/\Ze [a,b] w w':=by
 have ha:=hM.jf;have hb:=hM.je;have hn:=hM.len;have hne:=hM.ne;obtain ⟨h0,h1,h2,f1,f2⟩:=hM.cells;rcases Pd s i with ⟨hi,hc⟩|⟨k,rfl,hk,hc⟩|⟨k,rfl,hk,ho,hc⟩|⟨k,rfl,hk,ho,hc⟩
 ·have Hc:=Zh_ hc;clear hc;go_enter func148,ntmps148;go_wp2;go_ret;have hc:=Hc.out;exact ⟨by simp [hc],by simpa [Zh.store,hc] using (hM.alloc _),(Zr_ _ _).alloc _⟩
 ·have Hc:=Zh_ hc;clear hc;go_enter func148,ntmps148;go_wp2;go_ret;have hc:=Hc.out;exact ⟨by simp [hc],by simpa [Zh.store,hc] using (hM.alloc _),(Zr_ _ _).alloc _⟩
 ·have Hc:=Zh_ hc;clear hc;rw [ho] at h1;have Ho:=Zh_ ho;clear ho;go_enter func148,ntmps148;go_wp2;go_ret;have hc:=Hc.out;exact ⟨by simp [hc],by simpa [Zh.store,hc] using (hM.alloc _),(Zr_ _ _).alloc _⟩
 ·have Hc:=Zh_ hc;clear hc;rw [ho] at h1;have Ho:=Zh_ ho;clear ho;obtain ⟨hx,fx⟩:=hM.word hk;obtain ⟨x,hxe⟩:∃ x,x=s.ws.getD k 0:=⟨_,J⟩;rw [<-hxe] at hx;have Hx:=Zh_ hxe;clear hxe;go_enter func148,ntmps148;go_wp2;go_end0;go_wp2;go_ret;have hc:=Hc.out;have hxe:=Hx.out;exact ⟨by simp [hc],by simpa [Zh.store,hc] using (hM.jb.put k v).alloc _,(by repeat (first|exact Zr_ _ _|refine Ze.drew ?_|refine Ze.alloc ?_ _|refine Ze.wj ?_ _ _|refine Ze.wi ?_ _ _))⟩
end
section
theorem new_ok (n:Nat) (h1:1<=n) (h2:n<=4096) (w:W):
  Calls N 40 #[U Y n] w λ e w'=>e=R9 (.tuple #[E (I ⟨w.heap.size+1,0,O⟩),U Y 0])/\Zj 137 w' (w.heap.size+1) w.heap.size (.fresh n)/\Ze [] w w':=by
 have hmk:=make_u64 n h2;go_enter func40,ntmps40;go_wp2;go_ret2;exact ⟨J,Zj.yw w n h2 137,((Zr_ _ _).alloc _).alloc _⟩
theorem new_i (n:Int) (h1:1<=n) (h2:n<=4096) (w:W):
  Calls N 40 #[U Y n] w λ e w'=>e=R9 (.tuple #[E (I ⟨w.heap.size+1,0,O⟩),U Y 0])/\Zj 137 w' (w.heap.size+1) w.heap.size (.fresh n.toNat)/\Ze [] w w':=by
 obtain ⟨k,rfl⟩:=Int.eq_ofNat_of_zero_le (by omega:0<=n);exact new_ok k (by omega) (by omega) w
theorem new_e (n:Int) (h1:1<=n) (h2:n<=4096) (w:W):
  Calls N 40 #[U Y n] w λ e w'=>∃ a b,e=R9 (.tuple #[E (I ⟨a,0,O⟩),U Y 0])/\Zj 137 w' a b (.fresh n.toNat)/\w.heap.size<=a/\w.heap.size<=b/\Ze [] w w':=
 (new_i n h1 h2 w).mono λ _ _ ⟨he,hM,hd⟩=>⟨_,_,he,hM,by omega,by omega,hd⟩
end
section
theorem len_cq {a b:Nat} {s:Zh} {w:W} (hM:Zj 137 w a b s):
  Calls N 61 #[E (I ⟨a,0,O⟩)] w λ e w'=>e=R9 (U Y s.ws.length)/\w'=w:=by
 have hn:=hM.len;obtain ⟨h0,h1,h2,f1,f2⟩:=hM.cells;go_enter func61,ntmps61;go_wp2;go_ret;exact ⟨J,J⟩
theorem Jo {a b:Nat} {s:Zh} {w:W} (hM:Zj 137 w a b s) (i:Int):
  Calls N 32 #[E (I ⟨a,0,O⟩),U Y i] w λ e w'=>e=R9 (.tuple #[U Y9 (s.xh i),U Y (s.bad i)])/\w'=w:=by
 have hn:=hM.len;obtain ⟨h0,h1,h2,f1,f2⟩:=hM.cells;rcases Pb s i with ⟨hi,hc⟩|⟨k,rfl,hk,hc⟩|⟨k,rfl,hk,hc⟩
 ·have Hc:=Zh_ hc;clear hc;go_enter func32,ntmps32;go_wp2;go_ret2;have hc:=Hc.out;exact ⟨by simp [Zh.xh,hc],rfl⟩
 ·have Hc:=Zh_ hc;clear hc;go_enter func32,ntmps32;go_wp2;go_ret2;have hc:=Hc.out;exact ⟨by simp [Zh.xh,hc],rfl⟩
 ·have Hc:=Zh_ hc;clear hc;obtain ⟨hx,fx⟩:=hM.word hk;obtain ⟨x,hxe⟩:∃ x,x=s.ws.getD k 0:=⟨_,J⟩;rw [<-hxe] at hx;have Hx:=Zh_ hxe;clear hxe;go_enter func32,ntmps32;go_wp2;go_ret2;have hc:=Hc.out;have hxe:=Hx.out;exact ⟨by simp [Zh.xh,Zh.at,hc,hxe],rfl⟩
end
section
def Yz (p4 c:Int):Int:=if c < 0\/256<=c then 60 else if p4 < 0\/4096 < p4 then 30 else 0
def Vy (p4 c k:Int):Int:=if Yz p4 c=0 then p4+3 * c+k else 0
theorem Rx {p4 c:Int} (h:c < 0\/256<=c):Yz p4 c=60:=P9 h
theorem Cn {p4 c:Int} (h0:0<=c) (h8:c < 256) (h:p4 < 0\/4096 < p4):Yz p4 c=30:=by unfold Yz;rw [Q9 (by omega),P9 h]
theorem Xm {p4 c:Int} (h0:0<=c) (h8:c < 256) (h:0<=p4) (h':p4<=4096):Yz p4 c=0:=by unfold Yz;rw [Q9 (by omega),Q9 (by omega)]
theorem Pj (p4 c:Int):((c < 0\/256<=c)/\Yz p4 c=60)\/(0<=c/\c < 256/\(p4 < 0\/4096 < p4)/\Yz p4 c=30)\/(0<=c/\c < 256/\0<=p4/\p4<=4096/\Yz p4 c=0):=by
 by_cases h:c < 0\/256<=c
 ·exact .inl ⟨h,Rx h⟩
 ·by_cases k:p4 < 0\/4096 < p4
  ·exact .inr (.inl ⟨by omega,by omega,k,Cn (by omega) (by omega) k⟩)
  ·exact .inr (.inr ⟨by omega,by omega,by omega,by omega,Xm (by omega) (by omega) (by omega) (by omega)⟩)
theorem V4 {p4 c:Int} (h:Yz p4 c=0):0<=c/\c < 256/\0<=p4/\p4<=4096:=by
 rcases Pj p4 c with ⟨_,e⟩|⟨_,_,_,e⟩|⟨a,b,c,d,_⟩
 ·omega
 ·omega
 ·exact ⟨a,b,c,d⟩
theorem Ez (p0 p1 p2 p3 p4 p5 c k:Int) (h:c < 0) (w:W):
  Calls N 59 #[A9 #[U Y p0,U Y p1,U Y p2,U Y p3,U Y p4,U Y p5],U Y c,U Y k] w λ e w'=>e=R9 (.tuple #[U Y 0,U Y 60])/\w'=w.alloc (X #[U Y p0,U Y p1,U Y p2,U Y p3,U Y p4,U Y p5] 74):=by
 go_enter func59,ntmps59;go_wp2;go_ret2;exact ⟨J,J⟩
theorem Ey (p0 p1 p2 p3 p4 p5 c k:Int) (h:256<=c) (w:W):
  Calls N 59 #[A9 #[U Y p0,U Y p1,U Y p2,U Y p3,U Y p4,U Y p5],U Y c,U Y k] w λ e w'=>e=R9 (.tuple #[U Y 0,U Y 60])/\w'=w.alloc (X #[U Y p0,U Y p1,U Y p2,U Y p3,U Y p4,U Y p5] 74):=by
 go_enter func59,ntmps59;go_wp2;go_ret2;exact ⟨J,J⟩
theorem Ex (p0 p1 p2 p3 p4 p5 c k:Int) (h0:0<=c) (h8:c < 256) (h:p4 < 0) (w:W):
  Calls N 59 #[A9 #[U Y p0,U Y p1,U Y p2,U Y p3,U Y p4,U Y p5],U Y c,U Y k] w λ e w'=>e=R9 (.tuple #[U Y 0,U Y 30])/\w'=w.alloc (X #[U Y p0,U Y p1,U Y p2,U Y p3,U Y p4,U Y p5] 74):=by
 go_enter func59,ntmps59;go_wp2;go_ret2;exact ⟨J,J⟩
theorem Ew (p0 p1 p2 p3 p4 p5 c k:Int) (h0:0<=c) (h8:c < 256) (h:4096 < p4) (w:W):
  Calls N 59 #[A9 #[U Y p0,U Y p1,U Y p2,U Y p3,U Y p4,U Y p5],U Y c,U Y k] w λ e w'=>e=R9 (.tuple #[U Y 0,U Y 30])/\w'=w.alloc (X #[U Y p0,U Y p1,U Y p2,U Y p3,U Y p4,U Y p5] 74):=by
 go_enter func59,ntmps59;go_wp2;go_ret2;exact ⟨J,J⟩
theorem Gr (p0 p1 p2 p3 p4 p5 c k:Int) (h0:0<=c) (h8:c < 256) (h:0<=p4) (h':p4<=4096) (hk0:0<=k) (hk:k<=2) (w:W):
  Calls N 59 #[A9 #[U Y p0,U Y p1,U Y p2,U Y p3,U Y p4,U Y p5],U Y c,U Y k] w λ e w'=>e=R9 (.tuple #[U Y (p4+3 * c+k),U Y 0])/\w'=w.alloc (X #[U Y p0,U Y p1,U Y p2,U Y p3,U Y p4,U Y p5] 74):=by
 go_enter func59,ntmps59;go_wp2;go_ret2;exact ⟨J,J⟩
theorem Uc (p0 p1 p2 p3 p4 p5 c k:Int) (hk0:0<=k) (hk:k<=2) (w:W):
  Calls N 59 #[A9 #[U Y p0,U Y p1,U Y p2,U Y p3,U Y p4,U Y p5],U Y c,U Y k] w λ e w'=>e=R9 (.tuple #[U Y (Vy p4 c k),U Y (Yz p4 c)])/\w'=w.alloc (X #[U Y p0,U Y p1,U Y p2,U Y p3,U Y p4,U Y p5] 74):=by
 rcases Pj p4 c with ⟨h,he⟩|⟨h0,h8,h,he⟩|⟨h0,h8,h,h',he⟩
 ·have ha:Vy p4 c k=0:=by unfold Vy;rw [he];rfl
  rw [ha,he];rcases h with h|h
  ·exact Ez _ _ _ _ _ _ _ _ h w
  ·exact Ey _ _ _ _ _ _ _ _ h w
 ·have ha:Vy p4 c k=0:=by unfold Vy;rw [he];rfl
  rw [ha,he];rcases h with h|h
  ·exact Ex _ _ _ _ _ _ _ _ h0 h8 h w
  ·exact Ew _ _ _ _ _ _ _ _ h0 h8 h w
 ·have ha:Vy p4 c k=p4+3 * c+k:=by unfold Vy;rw [he];rfl
  rw [ha,he];exact Gr _ _ _ _ _ _ _ _ h0 h8 h h' hk0 hk w
end
section
attribute [local go_sem] Zi
def Zh.qp (s:Zh) (p4 c k:Int):Int:=if Yz p4 c=0 then s.acc (p4+3 * c+k) else Yz p4 c
def Zh.qv (s:Zh) (p4 c k:Int):Zh:=if Yz p4 c=0 then s.load (p4+3 * c+k) else s
def Zh.qm (s:Zh) (p4 c k:Int):Int:=if Yz p4 c=0 then s.xv (p4+3 * c+k) else 0
variable {a b:Nat} {s:Zh} {w:W}
theorem Uo (hM:Zj 137 w a b s) (p0 p1 p2 p3 p4 p5 c k:Int) (hk0:0<=k) (hk:k<=2):
  Calls N 144 #[E (I ⟨a,0,O⟩),A9 #[U Y p0,U Y p1,U Y p2,U Y p3,U Y p4,U Y p5],U Y c,U Y k] w λ e w'=>e=R9 (.tuple #[U Y9 (s.qm p4 c k),U Y (s.qp p4 c k)])/\Zj 137 w' a b (s.qv p4 c k)/\Ze [a,b] w w':=by
 by_cases he:Yz p4 c=0
 ·obtain ⟨h0,h1,h2,h3⟩:=V4 he;have hv:s.qm p4 c k=s.xv (p4+3 * c+k):=P9 he;have hx:s.qp p4 c k=s.acc (p4+3 * c+k):=P9 he;have hm:s.qv p4 c k=s.load (p4+3 * c+k):=P9 he;rw [hv,hx,hm];clear hv hx hm he;go_enter func144,ntmps144;go_wp2_with fail;refine (Gr _ _ _ _ _ _ _ _ h0 h1 h2 h3 hk0 hk _).mono ?_;rintro e w1 ⟨rfl,rfl⟩;go_wp2_with fail;refine (Un ((hM.alloc _).alloc _) _).mono ?_;rintro e w2 ⟨rfl,M2,d2⟩;go_wp2;go_ret2;exact ⟨J,M2,(((Zr_ _ _).alloc _).alloc _).trans d2⟩
 ·have hv:s.qm p4 c k=0:=Q9 he;have hx:s.qp p4 c k=Yz p4 c:=Q9 he;have hm:s.qv p4 c k=s:=Q9 he;have hz:(Yz p4 c !=0)=true:=by simp [he]
  rw [hv,hx,hm];clear hv hx hm he;go_enter func144,ntmps144;go_wp2_with fail;refine (Uc _ _ _ _ _ _ _ _ hk0 hk _).mono ?_;rintro e w1 ⟨rfl,rfl⟩;go_wp2;go_ret2;exact ⟨J,(hM.alloc _).alloc _,((Zr_ _ _).alloc _).alloc _⟩
def Zh.vh (s:Zh) (p4 c:Int):Nat:=if s.qp p4 c 1=0 then Zq (s.qm p4 c 1).toNat else 0
theorem now11 (hM:Zj 137 w a b s) (p0 p1 p2 p3 p4 p5 c:Int):
  Calls N 109 #[E (I ⟨a,0,O⟩),A9 #[U Y p0,U Y p1,U Y p2,U Y p3,U Y p4,U Y p5],U Y c] w λ e w'=>e=R9 (.tuple #[Z V (s.vh p4 c),U Y (s.qp p4 c 1)])/\Zj 137 w' a b (s.qv p4 c 1)/\Ze [a,b] w w':=by
 by_cases he:s.qp p4 c 1=0
 ·have hv:s.vh p4 c=Zq (s.qm p4 c 1).toNat:=P9 he;rw [hv,he];have He:=Zh_ he;clear hv he;go_enter func109,ntmps109;go_wp2_with fail;refine (Uo (hM.alloc _) _ _ _ _ _ _ _ 1 (by omega) (by omega)).mono ?_;rintro e w1 ⟨rfl,M1,d1⟩;rw [He.out];go_wp2_with fail;refine (of_c _ _).mono ?_;rintro e w2 ⟨rfl,hw2⟩;have hw2':=hw2.symm;subst hw2';go_wp2;go_ret2;exact ⟨J,M1,((Zr_ _ _).alloc _).trans d1⟩
 ·have hv:s.vh p4 c=0:=Q9 he;have hz:(s.qp p4 c 1 !=0)=true:=by simp [he]
  rw [hv];clear hv he;go_enter func109,ntmps109;go_wp2_with fail;refine (Uo (hM.alloc _) _ _ _ _ _ _ _ 1 (by omega) (by omega)).mono ?_;rintro e w1 ⟨rfl,M1,d1⟩;go_wp2;go_ret2;exact ⟨J,M1,((Zr_ _ _).alloc _).trans d1⟩
theorem E0 (hM:Zj 137 w a b s) (p0 p1 p2 p3 p4 p5 c:Int) (h:Yz p4 c=0) (hb:s.bad (p4+3 * c+2)=0):
  Calls N 33 #[E (I ⟨a,0,O⟩),A9 #[U Y p0,U Y p1,U Y p2,U Y p3,U Y p4,U Y p5],U Y c] w λ e w'=>e=R9 (.tuple #[A9 #[U Y9 (s.xh (p4+3 * c)),U Y9 (s.xh (p4+3 * c+1)),U Y9 (s.xh (p4+3 * c+2))],U Y 0])/\Zj 137 w' a b s/\Ze [] w w':=by
 obtain ⟨h0,h1,h2,h3⟩:=V4 h;have HB:=Zh_ hb;clear h hb;go_enter func33,ntmps33;go_wp2_with fail;refine (Gr _ _ _ _ _ _ _ 0 h0 h1 h2 h3 (by omega) (by omega) _).mono ?_;rintro e w1 ⟨rfl,rfl⟩;go_wp2_with fail;refine (Jo (((hM.alloc _).alloc _).alloc _) _).mono ?_;rintro e w1 ⟨rfl,rfl⟩;rw [HB.out];go_wp2_with fail;refine (Jo ((((hM.alloc _).alloc _).alloc _).alloc _) _).mono ?_;rintro e w1 ⟨rfl,rfl⟩;go_wp2_with fail;refine (Jo ((((hM.alloc _).alloc _).alloc _).alloc _) _).mono ?_;rintro e w1 ⟨rfl,rfl⟩;go_wp2;exact bodyPost_ret (v:=.tuple #[A9 #[U Y9 (s.xh (p4+3 * c)),U Y9 (s.xh (p4+3 * c+1)),U Y9 (s.xh (p4+3 * c+2))],U Y 0]) (by simp [results,results33,go_sem]) J ⟨J,(((hM.alloc _).alloc _).alloc _).alloc _,((((Zr_ _ _).alloc _).alloc _).alloc _).alloc _⟩
end
section
theorem madd_c {a b:Nat} {s:Zh} {w:W} (hM:Zj 137 w a b s) (i v:Int):
  Calls N 135 #[E (I ⟨a,0,O⟩),U Y i,U Y9 v] w λ e w'=>e=R9 (.tuple #[U Y9 (s.xv i),U Y (s.acc i)])/\Zj 137 w' a b (s.add i v)/\Ze [a,b] w w':=by
 have ha:=hM.jf;have hb:=hM.je;have hn:=hM.len;have hne:=hM.ne;obtain ⟨h0,h1,h2,f1,f2⟩:=hM.cells;rcases Pd s i with ⟨hi,hc⟩|⟨k,rfl,hk,hc⟩|⟨k,rfl,hk,ho,hc⟩|⟨k,rfl,hk,ho,hc⟩
 ·have Hc:=Zh_ hc;clear hc;go_enter func135,ntmps135;go_wp2;go_ret2;have hc:=Hc.out;exact ⟨by simp [Zh.xv,hc],by simpa [Zh.add,hc] using ((hM.alloc _).alloc _),((Zr_ _ _).alloc _).alloc _⟩
 ·have Hc:=Zh_ hc;clear hc;go_enter func135,ntmps135;go_wp2;go_ret2;have hc:=Hc.out;exact ⟨by simp [Zh.xv,hc],by simpa [Zh.add,hc] using ((hM.alloc _).alloc _),((Zr_ _ _).alloc _).alloc _⟩
 ·have Hc:=Zh_ hc;clear hc;rw [ho] at h1;have Ho:=Zh_ ho;clear ho;go_enter func135,ntmps135;go_wp2;go_ret2;have hc:=Hc.out;exact ⟨by simp [Zh.xv,hc],by simpa [Zh.add,hc] using ((hM.alloc _).alloc _),((Zr_ _ _).alloc _).alloc _⟩
 ·have Hc:=Zh_ hc;clear hc;rw [ho] at h1;have Ho:=Zh_ ho;clear ho;obtain ⟨hx,fx⟩:=hM.word hk;obtain ⟨x,hxe⟩:∃ x,x=s.ws.getD k 0:=⟨_,J⟩;rw [<-hxe] at hx;have Hx:=Zh_ hxe;clear hxe;go_enter func135,ntmps135;go_wp2;go_region;go_end0;go_wp2;go_ret2;have hc:=Hc.out;have hxe:=Hx.out;exact ⟨by simp [Zh.xv,Zh.at,hc,hxe],by simpa [Zh.add,hc,Zh.at,hxe] using (((hM.jb.put k (IntKind.u64.wrap (x+v))).alloc _).alloc _).drew,(by repeat (first|exact Zr_ _ _|refine Ze.drew ?_|refine Ze.alloc ?_ _|refine Ze.wj ?_ _ _|refine Ze.wi ?_ _ _))⟩
end
section
theorem peek_c {a b:Nat} {s:Zh} {w:W} (hM:Zj 137 w a b s) (i:Int):
  Calls N 32 #[E (I ⟨a,0,O⟩),U Y i] w λ e w'=>e=R9 (.tuple #[U Y9 (s.xh i),U Y (s.bad i)])/\Zj 137 w' a b (s)/\Ze [a,b] w w':=by
 have ha:=hM.jf;have hb:=hM.je;have hn:=hM.len;have hne:=hM.ne;obtain ⟨h0,h1,h2,f1,f2⟩:=hM.cells;rcases Pb s i with ⟨hi,hc⟩|⟨k,rfl,hk,hc⟩|⟨k,rfl,hk,hc⟩
 ·have Hc:=Zh_ hc;clear hc;go_enter func32,ntmps32;go_wp2;go_ret2;have hc:=Hc.out;exact ⟨by simp [Zh.xh,hc],hM,Zr_ _ _⟩
 ·have Hc:=Zh_ hc;clear hc;go_enter func32,ntmps32;go_wp2;go_ret2;have hc:=Hc.out;exact ⟨by simp [Zh.xh,hc],hM,Zr_ _ _⟩
 ·have Hc:=Zh_ hc;clear hc;obtain ⟨hx,fx⟩:=hM.word hk;obtain ⟨x,hxe⟩:∃ x,x=s.ws.getD k 0:=⟨_,J⟩;rw [<-hxe] at hx;have Hx:=Zh_ hxe;clear hxe;go_enter func32,ntmps32;go_wp2;go_ret2;have hc:=Hc.out;have hxe:=Hx.out;exact ⟨by simp [Zh.xh,Zh.at,hc,hxe],hM,Zr_ _ _⟩
theorem Sm {a b:Nat} {s:Zh} {w:W} (hM:Zj 137 w a b s) (i v:Int):
  Calls N 62 #[E (I ⟨a,0,O⟩),U Y i,U Y9 v] w λ e w'=>e=R9 (U Y (s.bad i))/\Zj 137 w' a b (s.jy i v)/\Ze [a,b] w w':=by
 have ha:=hM.jf;have hb:=hM.je;have hn:=hM.len;have hne:=hM.ne;obtain ⟨h0,h1,h2,f1,f2⟩:=hM.cells;rcases Pb s i with ⟨hi,hc⟩|⟨k,rfl,hk,hc⟩|⟨k,rfl,hk,hc⟩
 ·have Hc:=Zh_ hc;clear hc;go_enter func62,ntmps62;go_wp2;go_ret;have hc:=Hc.out;exact ⟨by simp [hc],by simpa [Zh.jy,hc] using hM,Zr_ _ _⟩
 ·have Hc:=Zh_ hc;clear hc;go_enter func62,ntmps62;go_wp2;go_ret;have hc:=Hc.out;exact ⟨by simp [hc],by simpa [Zh.jy,hc] using hM,Zr_ _ _⟩
 ·have Hc:=Zh_ hc;clear hc;obtain ⟨hx,fx⟩:=hM.word hk;obtain ⟨x,hxe⟩:∃ x,x=s.ws.getD k 0:=⟨_,J⟩;rw [<-hxe] at hx;have Hx:=Zh_ hxe;clear hxe;go_enter func62,ntmps62;go_wp2;go_ret;have hc:=Hc.out;have hxe:=Hx.out;exact ⟨by simp [hc],by simpa [Zh.jy,hc] using hM.put k v,(by repeat (first|exact Zr_ _ _|refine Ze.drew ?_|refine Ze.alloc ?_ _|refine Ze.wj ?_ _ _|refine Ze.wi ?_ _ _))⟩
end
section
theorem U8 {a b:Nat} {s:Zh} {w:W} (hM:Zj 137 w a b s):
  Calls N 226 #[E (I ⟨a,0,O⟩)] w λ e w'=>e=R9 (.tuple #[])/\Zj 137 w' a b (s.opened)/\Ze [a,b] w w':=by
 have ha:=hM.jf;have hb:=hM.je;have hn:=hM.len;have hne:=hM.ne;obtain ⟨h0,h1,h2,f1,f2⟩:=hM.cells;go_enter func226,ntmps226;go_wp2;go_end0;exact ⟨J,hM.opened,(by repeat (first|exact Zr_ _ _|refine Ze.drew ?_|refine Ze.alloc ?_ _|refine Ze.wj ?_ _ _|refine Ze.wi ?_ _ _))⟩
theorem Ge {a b:Nat} {s:Zh} {w:W} (hM:Zj 137 w a b s):
  Calls N 61 #[E (I ⟨a,0,O⟩)] w λ e w'=>e=R9 (U Y s.ws.length)/\Zj 137 w' a b (s)/\Ze [a,b] w w':=by
 have ha:=hM.jf;have hb:=hM.je;have hn:=hM.len;have hne:=hM.ne;obtain ⟨h0,h1,h2,f1,f2⟩:=hM.cells;go_enter func61,ntmps61;go_wp2;go_ret;exact ⟨J,hM,Zr_ _ _⟩
end
section
theorem Zs {w:W} {a b:Nat} {c d:Array Value} {t u:TypeId} {f g:Nat×Nat} (h:w.heap[a]? =I (.cells c t f)) (k:w.heap[b]? =I (.cells d u g)) (hn:t≠u):a≠b:=by
 rintro rfl;rw [h] at k;cases k
 exact hn J
theorem Nx (s:Zh) (i v:Int):(s.jy i v).ws.length=s.ws.length:=by unfold Zh.jy;split <;> simp [Zh.put]
end
section
attribute [local go_sem] Zi
structure X1 where
 (p0 p1 p2 p3 p4 p5 c u0 u1 u2 n:Int)
def X1.arr (r:X1):Array Value:=#[U Y r.p0,U Y r.p1,U Y r.p2,U Y r.p3,U Y r.p4,U Y r.p5,U Y r.c,U Y9 r.u0,U Y9 r.u1,U Y9 r.u2,U Y r.n]
def X1.qu (r:X1):Int:=if r.n=0 then 2 else if r.n=1 then 0 else 1
def X1.val (r:X1):Int:=if r.n=0 then r.u0 else if r.n=1 then r.u1 else r.u2
def Zh.zj (s:Zh) (p4 c k v:Int):Zh:=if Yz p4 c=0 then s.store (p4+3 * c+k) v else s
def X1.err (r:X1) (s:Zh):Int:=if r.n=3 then 3 else s.qp r.p4 r.c r.qu
def X1.mem (r:X1) (s:Zh):Zh:=if r.n=3 then s else s.zj r.p4 r.c r.qu r.val
def X1.next (r:X1) (s:Zh):X1:=if r.err s=0 then {r with n:=r.n+1} else r
def X1.qf (r:X1) (s:Zh):Bool:=if r.err s=0 then r.n+1==3 else false
variable {a b k:Nat} {s:Zh} {w:W} {p0 p1 p2 p3 p4 p5 c u0 u1 u2 n:Int}
theorem Rb (w:W) (x y:Obj):((w.alloc x).alloc y).heap[w.heap.size+1]? =I y:=by
 have h:=heap_alloc_new (w.alloc x) y
 rwa [World.size_alloc] at h
theorem write11 (p0 p1 p2 p3 p4 p5 c ve:Int) (x y:Nat) (w:W):
  Calls N 115 #[A9 #[U Y p0,U Y p1,U Y p2,U Y p3,U Y p4,U Y p5],U Y c,U Y9 ve,Z V x,Z V y] w λ e w'=>∃ k,e=R9 (E (I ⟨k,0,O⟩))/\w'.heap[k]? =I (.cells (X1.mk p0 p1 p2 p3 p4 p5 c (Zq x:Int) ve (Zq y:Int) 0).arr 247 (0,0))/\w.heap.size<=k/\Ze [] w w':=by
 have B1:(w.alloc (X #[U Y p0,U Y p1,U Y p2,U Y p3,U Y p4,U Y p5] 74)).heap[w.heap.size]? =I (X #[U Y p0,U Y p1,U Y p2,U Y p3,U Y p4,U Y p5] 74 (0,0)):=heap_alloc_new _ _;have q0:=Za (i:=0) B1 J;have q1:=Za (i:=1) B1 J;have q2:=Za (i:=2) B1 J;have q3:=Za (i:=3) B1 J;have q4:=Za (i:=4) B1 J;have q5:=Za (i:=5) B1 J;go_enter func115,ntmps115;go_upto_region 1 with fail
 go_region_held3 (λ wx=>wx.cell? ⟨w.heap.size,0,O⟩=I (U Y p0)/\wx.cell? ⟨w.heap.size,1,O⟩=I (U Y p1)/\wx.cell? ⟨w.heap.size,2,O⟩=I (U Y p2)/\wx.cell? ⟨w.heap.size,3,O⟩=I (U Y p3)/\wx.cell? ⟨w.heap.size,4,O⟩=I (U Y p4)/\wx.cell? ⟨w.heap.size,5,O⟩=I (U Y p5)) (first|exact ⟨q0,q1,q2,q3,q4,q5⟩|(go_split_ands;refine ⟨?_,?_,?_,?_,?_,?_⟩ <;> (refine Za (Zf _ (Zf _ B1)) ?_;rfl))|go_keep)
  (first
   |(go_at_call_of 63 (Z V x);refine (Fe x _).mono ?_;rintro e w2 ⟨rfl,rfl⟩)
   |(go_at_call_of 63 (Z V y);refine (Fe y _).mono ?_;rintro e w2 ⟨rfl,rfl⟩))
 all_goals
  go_wp2;go_ret;exact ⟨_,J,by have h:=Rb w (X #[U Y p0,U Y p1,U Y p2,U Y p3,U Y p4,U Y p5] 74) (.cells (X1.mk p0 p1 p2 p3 p4 p5 c (Zq x:Int) ve (Zq y:Int) 0).arr 247);exact h,by omega,by repeat (first|exact Zr_ _ _|refine Ze.drew ?_|refine Ze.alloc ?_ _)⟩
theorem wstep3 (hk:w.heap[k]? =I (X #[U Y p0,U Y p1,U Y p2,U Y p3,U Y p4,U Y p5,U Y c,U Y9 u0,U Y9 u1,U Y9 u2,U Y 3] 247 (0,0))):
  Calls N 116 #[E (I ⟨k,0,O⟩),E (I ⟨a,0,O⟩)] w λ e w'=>e=R9 (.tuple #[.bool false,U Y 3])/\w'=w:=by
 have r10:=Za (i:=10) hk J;go_enter func116,ntmps116;go_wp2;go_ret2;exact ⟨J,J⟩
theorem wbadP0 (hM:Zj 137 w a b s) (hk:w.heap[k]? =I (X #[U Y p0,U Y p1,U Y p2,U Y p3,U Y p4,U Y p5,U Y c,U Y9 u0,U Y9 u1,U Y9 u2,U Y 0] 247 (0,0))) (he:(Yz p4 c==0)=false) (he':(Yz p4 c !=0)=true):
  Calls N 116 #[E (I ⟨k,0,O⟩),E (I ⟨a,0,O⟩)] w λ e w'=>e=R9 (.tuple #[.bool false,U Y (Yz p4 c)])/\Zj 137 w' a b s/\w'.heap[k]? =I (X #[U Y p0,U Y p1,U Y p2,U Y p3,U Y p4,U Y p5,U Y c,U Y9 u0,U Y9 u1,U Y9 u2,U Y 0] 247 (0,0))/\Ze [a,b,k] w w':=by
 have hka:k≠a:=Zs hk hM.hd (by decide);have hkb:k≠b:=Zs hk hM.ws (by decide);obtain ⟨r0,r1,r2,r3,r4,r5,r6⟩:=Zc7e_ hk;have r10:=Za (i:=10) hk J;have hix:∀ wx:W,(Instr.index 248 (A9 #[U Y 2,U Y 0,U Y 1]) (U Y 0)).run N wx=.ok (U Y 2) wx:=λ _=>by kernel_rfl
 go_enter func116,ntmps116;go_upto_region 3 with fail
 go_cut [6,7] (λ A C wx=>A=U Y (Vy p4 c 2)/\C=U Y (Yz p4 c)/\Zj 137 wx a b s/\wx.heap[k]? =I (X #[U Y p0,U Y p1,U Y p2,U Y p3,U Y p4,U Y p5,U Y c,U Y9 u0,U Y9 u1,U Y9 u2,U Y 0] 247 (0,0))/\Ze [a,b,k] w wx)
 case first=>
  go_region_held3 (λ wx=>wx.cell? ⟨k,0,O⟩=I (U Y p0)/\wx.cell? ⟨k,1,O⟩=I (U Y p1)/\wx.cell? ⟨k,2,O⟩=I (U Y p2)/\wx.cell? ⟨k,3,O⟩=I (U Y p3)/\wx.cell? ⟨k,4,O⟩=I (U Y p4)/\wx.cell? ⟨k,5,O⟩=I (U Y p5)/\wx.cell? ⟨k,6,O⟩=I (U Y c)/\wx.cell? ⟨k,10,O⟩=I (U Y 0)) (first|exact ⟨r0,r1,r2,r3,r4,r5,r6,r10⟩|exact ⟨Za K2 J,Za K2 J,Za K2 J,Za K2 J,Za K2 J,Za K2 J,Za K2 J,Za K2 J⟩)
   (first|(go_at_call 59;refine (Uc p0 p1 p2 p3 p4 p5 c 2 (by omega) (by omega) _).mono ?_;rintro e w2 ⟨rfl,hw2⟩;have d2:Ze [] w.drew w2:=hw2 ▸ (Zr_ _ _).alloc _;clear hw2;have K2:=d2.at (k:=k) (o:=X #[U Y p0,U Y p1,U Y p2,U Y p3,U Y p4,U Y p5,U Y c,U Y9 u0,U Y9 u1,U Y9 u2,U Y 0] 247 (0,0)) hk (by simp)))
  all_goals
   go_wp2_with fail;go_meet;exact ⟨J,J,hM.drew.mod d2 (by simp) (by simp),K2,((Zr_ _ _).drew.trans d2).qj _⟩
 case rest=>
  obtain ⟨rfl,rfl,M3,K3,D3⟩:=hcut;clear r0 r1 r2 r3 r4 r5 r6 r10 hM hk;obtain ⟨w3,rfl⟩:∃ w3,w3=wc:=⟨_,J⟩;go_wp2;go_ret2;exact ⟨J,M3,K3,D3⟩
theorem wbadS0 (hM:Zj 137 w a b s) (hk:w.heap[k]? =I (X #[U Y p0,U Y p1,U Y p2,U Y p3,U Y p4,U Y p5,U Y c,U Y9 u0,U Y9 u1,U Y9 u2,U Y 0] 247 (0,0))) (h0:0<=c) (h1:c < 256) (h2:0<=p4) (h3:p4<=4096) (he:(s.acc (p4+3 * c+2) !=0)=true):
  Calls N 116 #[E (I ⟨k,0,O⟩),E (I ⟨a,0,O⟩)] w λ e w'=>e=R9 (.tuple #[.bool false,U Y (s.acc (p4+3 * c+2))])/\Zj 137 w' a b (s.store (p4+3 * c+2) u0)/\w'.heap[k]? =I (X #[U Y p0,U Y p1,U Y p2,U Y p3,U Y p4,U Y p5,U Y c,U Y9 u0,U Y9 u1,U Y9 u2,U Y 0] 247 (0,0))/\Ze [a,b,k] w w':=by
 have hx:Vy p4 c 2=p4+3 * c+2:=by unfold Vy;rw [P9 (Xm h0 h1 h2 h3)]
 have Hx:=Zh_ hx;have Hp:=Zh_ (Xm h0 h1 h2 h3);clear hx;have hka:k≠a:=Zs hk hM.hd (by decide);have hkb:k≠b:=Zs hk hM.ws (by decide);obtain ⟨r0,r1,r2,r3,r4,r5,r6⟩:=Zc7e_ hk;have r10:=Za (i:=10) hk J;have hix:∀ wx:W,(Instr.index 248 (A9 #[U Y 2,U Y 0,U Y 1]) (U Y 0)).run N wx=.ok (U Y 2) wx:=λ _=>by kernel_rfl
 go_enter func116,ntmps116;go_upto_region 3 with fail
 go_cut [6,7] (λ A C wx=>A=U Y (Vy p4 c 2)/\C=U Y (Yz p4 c)/\Zj 137 wx a b s/\wx.heap[k]? =I (X #[U Y p0,U Y p1,U Y p2,U Y p3,U Y p4,U Y p5,U Y c,U Y9 u0,U Y9 u1,U Y9 u2,U Y 0] 247 (0,0))/\Ze [a,b,k] w wx)
 case first=>
  go_region_held3 (λ wx=>wx.cell? ⟨k,0,O⟩=I (U Y p0)/\wx.cell? ⟨k,1,O⟩=I (U Y p1)/\wx.cell? ⟨k,2,O⟩=I (U Y p2)/\wx.cell? ⟨k,3,O⟩=I (U Y p3)/\wx.cell? ⟨k,4,O⟩=I (U Y p4)/\wx.cell? ⟨k,5,O⟩=I (U Y p5)/\wx.cell? ⟨k,6,O⟩=I (U Y c)/\wx.cell? ⟨k,10,O⟩=I (U Y 0)) (first|exact ⟨r0,r1,r2,r3,r4,r5,r6,r10⟩|exact ⟨Za K2 J,Za K2 J,Za K2 J,Za K2 J,Za K2 J,Za K2 J,Za K2 J,Za K2 J⟩)
   (first|(go_at_call 59;refine (Uc p0 p1 p2 p3 p4 p5 c 2 (by omega) (by omega) _).mono ?_;rintro e w2 ⟨rfl,hw2⟩;have d2:Ze [] w.drew w2:=hw2 ▸ (Zr_ _ _).alloc _;clear hw2;have K2:=d2.at (k:=k) (o:=X #[U Y p0,U Y p1,U Y p2,U Y p3,U Y p4,U Y p5,U Y c,U Y9 u0,U Y9 u1,U Y9 u2,U Y 0] 247 (0,0)) hk (by simp)))
  all_goals
   go_wp2_with fail;go_meet;exact ⟨J,J,hM.drew.mod d2 (by simp) (by simp),K2,((Zr_ _ _).drew.trans d2).qj _⟩
 case rest=>
  obtain ⟨rfl,rfl,M3,K3,D3⟩:=hcut;clear r0 r1 r2 r3 r4 r5 r6 r10 hM hk;obtain ⟨w3,rfl⟩:∃ w3,w3=wc:=⟨_,J⟩;rw [Hx.out,Hp.out];have r7:=Za (i:=7) K3 J;have r10:=Za (i:=10) K3 J;go_upto_region 5 with fail
  go_cut [7] (λ A wx=>A=U Y (s.acc (p4+3 * c+2))/\Zj 137 wx a b (s.store (p4+3 * c+2) u0)/\wx.heap[k]? =I (X #[U Y p0,U Y p1,U Y p2,U Y p3,U Y p4,U Y p5,U Y c,U Y9 u0,U Y9 u1,U Y9 u2,U Y 0] 247 (0,0))/\Ze [a,b,k] w wx)
  case first=>
   go_region_held3 (λ wx=>wx.cell? ⟨k,7,O⟩=I (U Y9 u0)/\wx.cell? ⟨k,10,O⟩=I (U Y 0)) (first|exact ⟨r7,r10⟩|exact ⟨Za K4 J,Za K4 J⟩)
    (first|(go_at_call 148;refine (Vo M3.drew (p4+3 * c+2) u0).mono ?_;rintro e w4 ⟨rfl,M4,d4⟩;have K4:=d4.at (k:=k) (o:=X #[U Y p0,U Y p1,U Y p2,U Y p3,U Y p4,U Y p5,U Y c,U Y9 u0,U Y9 u1,U Y9 u2,U Y 0] 247 (0,0)) K3 (by simp [hka,hkb])))
   all_goals
    go_wp2_with fail;go_meet;exact ⟨J,M4,K4,(D3.drew).trans (d4.mono (by simp))⟩
  case rest=>
   obtain ⟨rfl,M5,K5,D5⟩:=hcut;clear r7 r10 M3 K3 D3;obtain ⟨w5,rfl⟩:∃ w5,w5=wc:=⟨_,J⟩;go_wp2;go_ret2;exact ⟨J,M5,K5,D5⟩
theorem wok0 (hM:Zj 137 w a b s) (hk:w.heap[k]? =I (X #[U Y p0,U Y p1,U Y p2,U Y p3,U Y p4,U Y p5,U Y c,U Y9 u0,U Y9 u1,U Y9 u2,U Y 0] 247 (0,0))) (h0:0<=c) (h1:c < 256) (h2:0<=p4) (h3:p4<=4096) (he:s.acc (p4+3 * c+2)=0):
  Calls N 116 #[E (I ⟨k,0,O⟩),E (I ⟨a,0,O⟩)] w λ e w'=>e=R9 (.tuple #[.bool false,U Y 0])/\Zj 137 w' a b (s.store (p4+3 * c+2) u0)/\w'.heap[k]? =I (X #[U Y p0,U Y p1,U Y p2,U Y p3,U Y p4,U Y p5,U Y c,U Y9 u0,U Y9 u1,U Y9 u2,U Y 1] 247 (0,0))/\Ze [a,b,k] w w':=by
 have He:=Zh_ he;clear he;have hx:Vy p4 c 2=p4+3 * c+2:=by unfold Vy;rw [P9 (Xm h0 h1 h2 h3)]
 have Hx:=Zh_ hx;have Hp:=Zh_ (Xm h0 h1 h2 h3);clear hx;have hka:k≠a:=Zs hk hM.hd (by decide);have hkb:k≠b:=Zs hk hM.ws (by decide);obtain ⟨r0,r1,r2,r3,r4,r5,r6⟩:=Zc7e_ hk;have r10:=Za (i:=10) hk J;have hix:∀ wx:W,(Instr.index 248 (A9 #[U Y 2,U Y 0,U Y 1]) (U Y 0)).run N wx=.ok (U Y 2) wx:=λ _=>by kernel_rfl
 go_enter func116,ntmps116;go_upto_region 3 with fail
 go_cut [6,7] (λ A C wx=>A=U Y (Vy p4 c 2)/\C=U Y (Yz p4 c)/\Zj 137 wx a b s/\wx.heap[k]? =I (X #[U Y p0,U Y p1,U Y p2,U Y p3,U Y p4,U Y p5,U Y c,U Y9 u0,U Y9 u1,U Y9 u2,U Y 0] 247 (0,0))/\Ze [a,b,k] w wx)
 case first=>
  go_region_held3 (λ wx=>wx.cell? ⟨k,0,O⟩=I (U Y p0)/\wx.cell? ⟨k,1,O⟩=I (U Y p1)/\wx.cell? ⟨k,2,O⟩=I (U Y p2)/\wx.cell? ⟨k,3,O⟩=I (U Y p3)/\wx.cell? ⟨k,4,O⟩=I (U Y p4)/\wx.cell? ⟨k,5,O⟩=I (U Y p5)/\wx.cell? ⟨k,6,O⟩=I (U Y c)/\wx.cell? ⟨k,10,O⟩=I (U Y 0)) (first|exact ⟨r0,r1,r2,r3,r4,r5,r6,r10⟩|exact ⟨Za K2 J,Za K2 J,Za K2 J,Za K2 J,Za K2 J,Za K2 J,Za K2 J,Za K2 J⟩)
   (first|(go_at_call 59;refine (Uc p0 p1 p2 p3 p4 p5 c 2 (by omega) (by omega) _).mono ?_;rintro e w2 ⟨rfl,hw2⟩;have d2:Ze [] w.drew w2:=hw2 ▸ (Zr_ _ _).alloc _;clear hw2;have K2:=d2.at (k:=k) (o:=X #[U Y p0,U Y p1,U Y p2,U Y p3,U Y p4,U Y p5,U Y c,U Y9 u0,U Y9 u1,U Y9 u2,U Y 0] 247 (0,0)) hk (by simp)))
  all_goals
   go_wp2_with fail;go_meet;exact ⟨J,J,hM.drew.mod d2 (by simp) (by simp),K2,((Zr_ _ _).drew.trans d2).qj _⟩
 case rest=>
  obtain ⟨rfl,rfl,M3,K3,D3⟩:=hcut;clear r0 r1 r2 r3 r4 r5 r6 r10 hM hk;obtain ⟨w3,rfl⟩:∃ w3,w3=wc:=⟨_,J⟩;rw [Hx.out,Hp.out];have r7:=Za (i:=7) K3 J;have r10:=Za (i:=10) K3 J;go_upto_region 5 with fail
  go_cut [7] (λ A wx=>A=U Y (s.acc (p4+3 * c+2))/\Zj 137 wx a b (s.store (p4+3 * c+2) u0)/\wx.heap[k]? =I (X #[U Y p0,U Y p1,U Y p2,U Y p3,U Y p4,U Y p5,U Y c,U Y9 u0,U Y9 u1,U Y9 u2,U Y 0] 247 (0,0))/\Ze [a,b,k] w wx)
  case first=>
   go_region_held3 (λ wx=>wx.cell? ⟨k,7,O⟩=I (U Y9 u0)/\wx.cell? ⟨k,10,O⟩=I (U Y 0)) (first|exact ⟨r7,r10⟩|exact ⟨Za K4 J,Za K4 J⟩)
    (first|(go_at_call 148;refine (Vo M3.drew (p4+3 * c+2) u0).mono ?_;rintro e w4 ⟨rfl,M4,d4⟩;have K4:=d4.at (k:=k) (o:=X #[U Y p0,U Y p1,U Y p2,U Y p3,U Y p4,U Y p5,U Y c,U Y9 u0,U Y9 u1,U Y9 u2,U Y 0] 247 (0,0)) K3 (by simp [hka,hkb])))
   all_goals
    go_wp2_with fail;go_meet;exact ⟨J,M4,K4,(D3.drew).trans (d4.mono (by simp))⟩
  case rest=>
   obtain ⟨rfl,M5,K5,D5⟩:=hcut;clear r7 r10 M3 K3 D3;obtain ⟨w5,rfl⟩:∃ w5,w5=wc:=⟨_,J⟩;rw [He.out];have r10:=Za (i:=10) K5 J;have z10:=Zb (i:=10) K5;go_upto_region 9 with fail;have K6:=Zd (i:=10) (U Y 1) K5;simp only [List.setIfInBounds_toArray,List.set_cons_succ,List.set_cons_zero] at K6;have M6:=M5.other k 10 (U Y 1) (Ne.symm hka) (Ne.symm hkb);have D6:=D5.setCell ⟨k,10,O⟩ (U Y 1) (.inl (by simp));clear r10 z10 K5 M5 D5;generalize w5.setCell ⟨k,10,O⟩ (U Y 1)=w6 at *
   have r10:=Za (i:=10) K6 J;go_wp2;go_ret2;exact ⟨J,M6,K6,D6⟩
theorem wbadP1 (hM:Zj 137 w a b s) (hk:w.heap[k]? =I (X #[U Y p0,U Y p1,U Y p2,U Y p3,U Y p4,U Y p5,U Y c,U Y9 u0,U Y9 u1,U Y9 u2,U Y 1] 247 (0,0))) (he:(Yz p4 c==0)=false) (he':(Yz p4 c !=0)=true):
  Calls N 116 #[E (I ⟨k,0,O⟩),E (I ⟨a,0,O⟩)] w λ e w'=>e=R9 (.tuple #[.bool false,U Y (Yz p4 c)])/\Zj 137 w' a b s/\w'.heap[k]? =I (X #[U Y p0,U Y p1,U Y p2,U Y p3,U Y p4,U Y p5,U Y c,U Y9 u0,U Y9 u1,U Y9 u2,U Y 1] 247 (0,0))/\Ze [a,b,k] w w':=by
 have hka:k≠a:=Zs hk hM.hd (by decide);have hkb:k≠b:=Zs hk hM.ws (by decide);obtain ⟨r0,r1,r2,r3,r4,r5,r6⟩:=Zc7e_ hk;have r10:=Za (i:=10) hk J;have hix:∀ wx:W,(Instr.index 248 (A9 #[U Y 2,U Y 0,U Y 1]) (U Y 1)).run N wx=.ok (U Y 0) wx:=λ _=>by kernel_rfl
 go_enter func116,ntmps116;go_upto_region 3 with fail
 go_cut [6,7] (λ A C wx=>A=U Y (Vy p4 c 0)/\C=U Y (Yz p4 c)/\Zj 137 wx a b s/\wx.heap[k]? =I (X #[U Y p0,U Y p1,U Y p2,U Y p3,U Y p4,U Y p5,U Y c,U Y9 u0,U Y9 u1,U Y9 u2,U Y 1] 247 (0,0))/\Ze [a,b,k] w wx)
 case first=>
  go_region_held3 (λ wx=>wx.cell? ⟨k,0,O⟩=I (U Y p0)/\wx.cell? ⟨k,1,O⟩=I (U Y p1)/\wx.cell? ⟨k,2,O⟩=I (U Y p2)/\wx.cell? ⟨k,3,O⟩=I (U Y p3)/\wx.cell? ⟨k,4,O⟩=I (U Y p4)/\wx.cell? ⟨k,5,O⟩=I (U Y p5)/\wx.cell? ⟨k,6,O⟩=I (U Y c)/\wx.cell? ⟨k,10,O⟩=I (U Y 1)) (first|exact ⟨r0,r1,r2,r3,r4,r5,r6,r10⟩|exact ⟨Za K2 J,Za K2 J,Za K2 J,Za K2 J,Za K2 J,Za K2 J,Za K2 J,Za K2 J⟩)
   (first|(go_at_call 59;refine (Uc p0 p1 p2 p3 p4 p5 c 0 (by omega) (by omega) _).mono ?_;rintro e w2 ⟨rfl,hw2⟩;have d2:Ze [] w.drew w2:=hw2 ▸ (Zr_ _ _).alloc _;clear hw2;have K2:=d2.at (k:=k) (o:=X #[U Y p0,U Y p1,U Y p2,U Y p3,U Y p4,U Y p5,U Y c,U Y9 u0,U Y9 u1,U Y9 u2,U Y 1] 247 (0,0)) hk (by simp)))
  all_goals
   go_wp2_with fail;go_meet;exact ⟨J,J,hM.drew.mod d2 (by simp) (by simp),K2,((Zr_ _ _).drew.trans d2).qj _⟩
 case rest=>
  obtain ⟨rfl,rfl,M3,K3,D3⟩:=hcut;clear r0 r1 r2 r3 r4 r5 r6 r10 hM hk;obtain ⟨w3,rfl⟩:∃ w3,w3=wc:=⟨_,J⟩;go_wp2;go_ret2;exact ⟨J,M3,K3,D3⟩
theorem wbadS1 (hM:Zj 137 w a b s) (hk:w.heap[k]? =I (X #[U Y p0,U Y p1,U Y p2,U Y p3,U Y p4,U Y p5,U Y c,U Y9 u0,U Y9 u1,U Y9 u2,U Y 1] 247 (0,0))) (h0:0<=c) (h1:c < 256) (h2:0<=p4) (h3:p4<=4096) (he:(s.acc (p4+3 * c) !=0)=true):
  Calls N 116 #[E (I ⟨k,0,O⟩),E (I ⟨a,0,O⟩)] w λ e w'=>e=R9 (.tuple #[.bool false,U Y (s.acc (p4+3 * c))])/\Zj 137 w' a b (s.store (p4+3 * c) u1)/\w'.heap[k]? =I (X #[U Y p0,U Y p1,U Y p2,U Y p3,U Y p4,U Y p5,U Y c,U Y9 u0,U Y9 u1,U Y9 u2,U Y 1] 247 (0,0))/\Ze [a,b,k] w w':=by
 have hx:Vy p4 c 0=p4+3 * c:=by unfold Vy;rw [P9 (Xm h0 h1 h2 h3)];omega
 have Hx:=Zh_ hx;have Hp:=Zh_ (Xm h0 h1 h2 h3);clear hx;have hka:k≠a:=Zs hk hM.hd (by decide);have hkb:k≠b:=Zs hk hM.ws (by decide);obtain ⟨r0,r1,r2,r3,r4,r5,r6⟩:=Zc7e_ hk;have r10:=Za (i:=10) hk J;have hix:∀ wx:W,(Instr.index 248 (A9 #[U Y 2,U Y 0,U Y 1]) (U Y 1)).run N wx=.ok (U Y 0) wx:=λ _=>by kernel_rfl
 go_enter func116,ntmps116;go_upto_region 3 with fail
 go_cut [6,7] (λ A C wx=>A=U Y (Vy p4 c 0)/\C=U Y (Yz p4 c)/\Zj 137 wx a b s/\wx.heap[k]? =I (X #[U Y p0,U Y p1,U Y p2,U Y p3,U Y p4,U Y p5,U Y c,U Y9 u0,U Y9 u1,U Y9 u2,U Y 1] 247 (0,0))/\Ze [a,b,k] w wx)
 case first=>
  go_region_held3 (λ wx=>wx.cell? ⟨k,0,O⟩=I (U Y p0)/\wx.cell? ⟨k,1,O⟩=I (U Y p1)/\wx.cell? ⟨k,2,O⟩=I (U Y p2)/\wx.cell? ⟨k,3,O⟩=I (U Y p3)/\wx.cell? ⟨k,4,O⟩=I (U Y p4)/\wx.cell? ⟨k,5,O⟩=I (U Y p5)/\wx.cell? ⟨k,6,O⟩=I (U Y c)/\wx.cell? ⟨k,10,O⟩=I (U Y 1)) (first|exact ⟨r0,r1,r2,r3,r4,r5,r6,r10⟩|exact ⟨Za K2 J,Za K2 J,Za K2 J,Za K2 J,Za K2 J,Za K2 J,Za K2 J,Za K2 J⟩)
   (first|(go_at_call 59;refine (Uc p0 p1 p2 p3 p4 p5 c 0 (by omega) (by omega) _).mono ?_;rintro e w2 ⟨rfl,hw2⟩;have d2:Ze [] w.drew w2:=hw2 ▸ (Zr_ _ _).alloc _;clear hw2;have K2:=d2.at (k:=k) (o:=X #[U Y p0,U Y p1,U Y p2,U Y p3,U Y p4,U Y p5,U Y c,U Y9 u0,U Y9 u1,U Y9 u2,U Y 1] 247 (0,0)) hk (by simp)))
  all_goals
   go_wp2_with fail;go_meet;exact ⟨J,J,hM.drew.mod d2 (by simp) (by simp),K2,((Zr_ _ _).drew.trans d2).qj _⟩
 case rest=>
  obtain ⟨rfl,rfl,M3,K3,D3⟩:=hcut;clear r0 r1 r2 r3 r4 r5 r6 r10 hM hk;obtain ⟨w3,rfl⟩:∃ w3,w3=wc:=⟨_,J⟩;rw [Hx.out,Hp.out];have r8:=Za (i:=8) K3 J;have r10:=Za (i:=10) K3 J;go_upto_region 5 with fail
  go_cut [7] (λ A wx=>A=U Y (s.acc (p4+3 * c))/\Zj 137 wx a b (s.store (p4+3 * c) u1)/\wx.heap[k]? =I (X #[U Y p0,U Y p1,U Y p2,U Y p3,U Y p4,U Y p5,U Y c,U Y9 u0,U Y9 u1,U Y9 u2,U Y 1] 247 (0,0))/\Ze [a,b,k] w wx)
  case first=>
   go_region_held3 (λ wx=>wx.cell? ⟨k,8,O⟩=I (U Y9 u1)/\wx.cell? ⟨k,10,O⟩=I (U Y 1)) (first|exact ⟨r8,r10⟩|exact ⟨Za K4 J,Za K4 J⟩)
    (first|(go_at_call 148;refine (Vo M3.drew (p4+3 * c) u1).mono ?_;rintro e w4 ⟨rfl,M4,d4⟩;have K4:=d4.at (k:=k) (o:=X #[U Y p0,U Y p1,U Y p2,U Y p3,U Y p4,U Y p5,U Y c,U Y9 u0,U Y9 u1,U Y9 u2,U Y 1] 247 (0,0)) K3 (by simp [hka,hkb])))
   all_goals
    go_wp2_with fail;go_meet;exact ⟨J,M4,K4,(D3.drew).trans (d4.mono (by simp))⟩
  case rest=>
   obtain ⟨rfl,M5,K5,D5⟩:=hcut;clear r8 r10 M3 K3 D3;obtain ⟨w5,rfl⟩:∃ w5,w5=wc:=⟨_,J⟩;go_wp2;go_ret2;exact ⟨J,M5,K5,D5⟩
theorem wok1 (hM:Zj 137 w a b s) (hk:w.heap[k]? =I (X #[U Y p0,U Y p1,U Y p2,U Y p3,U Y p4,U Y p5,U Y c,U Y9 u0,U Y9 u1,U Y9 u2,U Y 1] 247 (0,0))) (h0:0<=c) (h1:c < 256) (h2:0<=p4) (h3:p4<=4096) (he:s.acc (p4+3 * c)=0):
  Calls N 116 #[E (I ⟨k,0,O⟩),E (I ⟨a,0,O⟩)] w λ e w'=>e=R9 (.tuple #[.bool false,U Y 0])/\Zj 137 w' a b (s.store (p4+3 * c) u1)/\w'.heap[k]? =I (X #[U Y p0,U Y p1,U Y p2,U Y p3,U Y p4,U Y p5,U Y c,U Y9 u0,U Y9 u1,U Y9 u2,U Y 2] 247 (0,0))/\Ze [a,b,k] w w':=by
 have He:=Zh_ he;clear he;have hx:Vy p4 c 0=p4+3 * c:=by unfold Vy;rw [P9 (Xm h0 h1 h2 h3)];omega
 have Hx:=Zh_ hx;have Hp:=Zh_ (Xm h0 h1 h2 h3);clear hx;have hka:k≠a:=Zs hk hM.hd (by decide);have hkb:k≠b:=Zs hk hM.ws (by decide);obtain ⟨r0,r1,r2,r3,r4,r5,r6⟩:=Zc7e_ hk;have r10:=Za (i:=10) hk J;have hix:∀ wx:W,(Instr.index 248 (A9 #[U Y 2,U Y 0,U Y 1]) (U Y 1)).run N wx=.ok (U Y 0) wx:=λ _=>by kernel_rfl
 go_enter func116,ntmps116;go_upto_region 3 with fail
 go_cut [6,7] (λ A C wx=>A=U Y (Vy p4 c 0)/\C=U Y (Yz p4 c)/\Zj 137 wx a b s/\wx.heap[k]? =I (X #[U Y p0,U Y p1,U Y p2,U Y p3,U Y p4,U Y p5,U Y c,U Y9 u0,U Y9 u1,U Y9 u2,U Y 1] 247 (0,0))/\Ze [a,b,k] w wx)
 case first=>
  go_region_held3 (λ wx=>wx.cell? ⟨k,0,O⟩=I (U Y p0)/\wx.cell? ⟨k,1,O⟩=I (U Y p1)/\wx.cell? ⟨k,2,O⟩=I (U Y p2)/\wx.cell? ⟨k,3,O⟩=I (U Y p3)/\wx.cell? ⟨k,4,O⟩=I (U Y p4)/\wx.cell? ⟨k,5,O⟩=I (U Y p5)/\wx.cell? ⟨k,6,O⟩=I (U Y c)/\wx.cell? ⟨k,10,O⟩=I (U Y 1)) (first|exact ⟨r0,r1,r2,r3,r4,r5,r6,r10⟩|exact ⟨Za K2 J,Za K2 J,Za K2 J,Za K2 J,Za K2 J,Za K2 J,Za K2 J,Za K2 J⟩)
   (first|(go_at_call 59;refine (Uc p0 p1 p2 p3 p4 p5 c 0 (by omega) (by omega) _).mono ?_;rintro e w2 ⟨rfl,hw2⟩;have d2:Ze [] w.drew w2:=hw2 ▸ (Zr_ _ _).alloc _;clear hw2;have K2:=d2.at (k:=k) (o:=X #[U Y p0,U Y p1,U Y p2,U Y p3,U Y p4,U Y p5,U Y c,U Y9 u0,U Y9 u1,U Y9 u2,U Y 1] 247 (0,0)) hk (by simp)))
  all_goals
   go_wp2_with fail;go_meet;exact ⟨J,J,hM.drew.mod d2 (by simp) (by simp),K2,((Zr_ _ _).drew.trans d2).qj _⟩
 case rest=>
  obtain ⟨rfl,rfl,M3,K3,D3⟩:=hcut;clear r0 r1 r2 r3 r4 r5 r6 r10 hM hk;obtain ⟨w3,rfl⟩:∃ w3,w3=wc:=⟨_,J⟩;rw [Hx.out,Hp.out];have r8:=Za (i:=8) K3 J;have r10:=Za (i:=10) K3 J;go_upto_region 5 with fail
  go_cut [7] (λ A wx=>A=U Y (s.acc (p4+3 * c))/\Zj 137 wx a b (s.store (p4+3 * c) u1)/\wx.heap[k]? =I (X #[U Y p0,U Y p1,U Y p2,U Y p3,U Y p4,U Y p5,U Y c,U Y9 u0,U Y9 u1,U Y9 u2,U Y 1] 247 (0,0))/\Ze [a,b,k] w wx)
  case first=>
   go_region_held3 (λ wx=>wx.cell? ⟨k,8,O⟩=I (U Y9 u1)/\wx.cell? ⟨k,10,O⟩=I (U Y 1)) (first|exact ⟨r8,r10⟩|exact ⟨Za K4 J,Za K4 J⟩)
    (first|(go_at_call 148;refine (Vo M3.drew (p4+3 * c) u1).mono ?_;rintro e w4 ⟨rfl,M4,d4⟩;have K4:=d4.at (k:=k) (o:=X #[U Y p0,U Y p1,U Y p2,U Y p3,U Y p4,U Y p5,U Y c,U Y9 u0,U Y9 u1,U Y9 u2,U Y 1] 247 (0,0)) K3 (by simp [hka,hkb])))
   all_goals
    go_wp2_with fail;go_meet;exact ⟨J,M4,K4,(D3.drew).trans (d4.mono (by simp))⟩
  case rest=>
   obtain ⟨rfl,M5,K5,D5⟩:=hcut;clear r8 r10 M3 K3 D3;obtain ⟨w5,rfl⟩:∃ w5,w5=wc:=⟨_,J⟩;rw [He.out];have r10:=Za (i:=10) K5 J;have z10:=Zb (i:=10) K5;go_upto_region 9 with fail;have K6:=Zd (i:=10) (U Y 2) K5;simp only [List.setIfInBounds_toArray,List.set_cons_succ,List.set_cons_zero] at K6;have M6:=M5.other k 10 (U Y 2) (Ne.symm hka) (Ne.symm hkb);have D6:=D5.setCell ⟨k,10,O⟩ (U Y 2) (.inl (by simp));clear r10 z10 K5 M5 D5;generalize w5.setCell ⟨k,10,O⟩ (U Y 2)=w6 at *
   have r10:=Za (i:=10) K6 J;go_wp2;go_ret2;exact ⟨J,M6,K6,D6⟩
theorem wbadP2 (hM:Zj 137 w a b s) (hk:w.heap[k]? =I (X #[U Y p0,U Y p1,U Y p2,U Y p3,U Y p4,U Y p5,U Y c,U Y9 u0,U Y9 u1,U Y9 u2,U Y 2] 247 (0,0))) (he:(Yz p4 c==0)=false) (he':(Yz p4 c !=0)=true):
  Calls N 116 #[E (I ⟨k,0,O⟩),E (I ⟨a,0,O⟩)] w λ e w'=>e=R9 (.tuple #[.bool false,U Y (Yz p4 c)])/\Zj 137 w' a b s/\w'.heap[k]? =I (X #[U Y p0,U Y p1,U Y p2,U Y p3,U Y p4,U Y p5,U Y c,U Y9 u0,U Y9 u1,U Y9 u2,U Y 2] 247 (0,0))/\Ze [a,b,k] w w':=by
 have hka:k≠a:=Zs hk hM.hd (by decide);have hkb:k≠b:=Zs hk hM.ws (by decide);obtain ⟨r0,r1,r2,r3,r4,r5,r6⟩:=Zc7e_ hk;have r10:=Za (i:=10) hk J;have hix:∀ wx:W,(Instr.index 248 (A9 #[U Y 2,U Y 0,U Y 1]) (U Y 2)).run N wx=.ok (U Y 1) wx:=λ _=>by kernel_rfl
 go_enter func116,ntmps116;go_upto_region 3 with fail
 go_cut [6,7] (λ A C wx=>A=U Y (Vy p4 c 1)/\C=U Y (Yz p4 c)/\Zj 137 wx a b s/\wx.heap[k]? =I (X #[U Y p0,U Y p1,U Y p2,U Y p3,U Y p4,U Y p5,U Y c,U Y9 u0,U Y9 u1,U Y9 u2,U Y 2] 247 (0,0))/\Ze [a,b,k] w wx)
 case first=>
  go_region_held3 (λ wx=>wx.cell? ⟨k,0,O⟩=I (U Y p0)/\wx.cell? ⟨k,1,O⟩=I (U Y p1)/\wx.cell? ⟨k,2,O⟩=I (U Y p2)/\wx.cell? ⟨k,3,O⟩=I (U Y p3)/\wx.cell? ⟨k,4,O⟩=I (U Y p4)/\wx.cell? ⟨k,5,O⟩=I (U Y p5)/\wx.cell? ⟨k,6,O⟩=I (U Y c)/\wx.cell? ⟨k,10,O⟩=I (U Y 2)) (first|exact ⟨r0,r1,r2,r3,r4,r5,r6,r10⟩|exact ⟨Za K2 J,Za K2 J,Za K2 J,Za K2 J,Za K2 J,Za K2 J,Za K2 J,Za K2 J⟩)
   (first|(go_at_call 59;refine (Uc p0 p1 p2 p3 p4 p5 c 1 (by omega) (by omega) _).mono ?_;rintro e w2 ⟨rfl,hw2⟩;have d2:Ze [] w.drew w2:=hw2 ▸ (Zr_ _ _).alloc _;clear hw2;have K2:=d2.at (k:=k) (o:=X #[U Y p0,U Y p1,U Y p2,U Y p3,U Y p4,U Y p5,U Y c,U Y9 u0,U Y9 u1,U Y9 u2,U Y 2] 247 (0,0)) hk (by simp)))
  all_goals
   go_wp2_with fail;go_meet;exact ⟨J,J,hM.drew.mod d2 (by simp) (by simp),K2,((Zr_ _ _).drew.trans d2).qj _⟩
 case rest=>
  obtain ⟨rfl,rfl,M3,K3,D3⟩:=hcut;clear r0 r1 r2 r3 r4 r5 r6 r10 hM hk;obtain ⟨w3,rfl⟩:∃ w3,w3=wc:=⟨_,J⟩;go_wp2;go_ret2;exact ⟨J,M3,K3,D3⟩
theorem wbadS2 (hM:Zj 137 w a b s) (hk:w.heap[k]? =I (X #[U Y p0,U Y p1,U Y p2,U Y p3,U Y p4,U Y p5,U Y c,U Y9 u0,U Y9 u1,U Y9 u2,U Y 2] 247 (0,0))) (h0:0<=c) (h1:c < 256) (h2:0<=p4) (h3:p4<=4096) (he:(s.acc (p4+3 * c+1) !=0)=true):
  Calls N 116 #[E (I ⟨k,0,O⟩),E (I ⟨a,0,O⟩)] w λ e w'=>e=R9 (.tuple #[.bool false,U Y (s.acc (p4+3 * c+1))])/\Zj 137 w' a b (s.store (p4+3 * c+1) u2)/\w'.heap[k]? =I (X #[U Y p0,U Y p1,U Y p2,U Y p3,U Y p4,U Y p5,U Y c,U Y9 u0,U Y9 u1,U Y9 u2,U Y 2] 247 (0,0))/\Ze [a,b,k] w w':=by
 have hx:Vy p4 c 1=p4+3 * c+1:=by unfold Vy;rw [P9 (Xm h0 h1 h2 h3)]
 have Hx:=Zh_ hx;have Hp:=Zh_ (Xm h0 h1 h2 h3);clear hx;have hka:k≠a:=Zs hk hM.hd (by decide);have hkb:k≠b:=Zs hk hM.ws (by decide);obtain ⟨r0,r1,r2,r3,r4,r5,r6⟩:=Zc7e_ hk;have r10:=Za (i:=10) hk J;have hix:∀ wx:W,(Instr.index 248 (A9 #[U Y 2,U Y 0,U Y 1]) (U Y 2)).run N wx=.ok (U Y 1) wx:=λ _=>by kernel_rfl
 go_enter func116,ntmps116;go_upto_region 3 with fail
 go_cut [6,7] (λ A C wx=>A=U Y (Vy p4 c 1)/\C=U Y (Yz p4 c)/\Zj 137 wx a b s/\wx.heap[k]? =I (X #[U Y p0,U Y p1,U Y p2,U Y p3,U Y p4,U Y p5,U Y c,U Y9 u0,U Y9 u1,U Y9 u2,U Y 2] 247 (0,0))/\Ze [a,b,k] w wx)
 case first=>
  go_region_held3 (λ wx=>wx.cell? ⟨k,0,O⟩=I (U Y p0)/\wx.cell? ⟨k,1,O⟩=I (U Y p1)/\wx.cell? ⟨k,2,O⟩=I (U Y p2)/\wx.cell? ⟨k,3,O⟩=I (U Y p3)/\wx.cell? ⟨k,4,O⟩=I (U Y p4)/\wx.cell? ⟨k,5,O⟩=I (U Y p5)/\wx.cell? ⟨k,6,O⟩=I (U Y c)/\wx.cell? ⟨k,10,O⟩=I (U Y 2)) (first|exact ⟨r0,r1,r2,r3,r4,r5,r6,r10⟩|exact ⟨Za K2 J,Za K2 J,Za K2 J,Za K2 J,Za K2 J,Za K2 J,Za K2 J,Za K2 J⟩)
   (first|(go_at_call 59;refine (Uc p0 p1 p2 p3 p4 p5 c 1 (by omega) (by omega) _).mono ?_;rintro e w2 ⟨rfl,hw2⟩;have d2:Ze [] w.drew w2:=hw2 ▸ (Zr_ _ _).alloc _;clear hw2;have K2:=d2.at (k:=k) (o:=X #[U Y p0,U Y p1,U Y p2,U Y p3,U Y p4,U Y p5,U Y c,U Y9 u0,U Y9 u1,U Y9 u2,U Y 2] 247 (0,0)) hk (by simp)))
  all_goals
   go_wp2_with fail;go_meet;exact ⟨J,J,hM.drew.mod d2 (by simp) (by simp),K2,((Zr_ _ _).drew.trans d2).qj _⟩
 case rest=>
  obtain ⟨rfl,rfl,M3,K3,D3⟩:=hcut;clear r0 r1 r2 r3 r4 r5 r6 r10 hM hk;obtain ⟨w3,rfl⟩:∃ w3,w3=wc:=⟨_,J⟩;rw [Hx.out,Hp.out];have r9:=Za (i:=9) K3 J;have r10:=Za (i:=10) K3 J;go_upto_region 5 with fail
  go_cut [7] (λ A wx=>A=U Y (s.acc (p4+3 * c+1))/\Zj 137 wx a b (s.store (p4+3 * c+1) u2)/\wx.heap[k]? =I (X #[U Y p0,U Y p1,U Y p2,U Y p3,U Y p4,U Y p5,U Y c,U Y9 u0,U Y9 u1,U Y9 u2,U Y 2] 247 (0,0))/\Ze [a,b,k] w wx)
  case first=>
   go_region_held3 (λ wx=>wx.cell? ⟨k,9,O⟩=I (U Y9 u2)/\wx.cell? ⟨k,10,O⟩=I (U Y 2)) (first|exact ⟨r9,r10⟩|exact ⟨Za K4 J,Za K4 J⟩)
    (first|(go_at_call 148;refine (Vo M3.drew (p4+3 * c+1) u2).mono ?_;rintro e w4 ⟨rfl,M4,d4⟩;have K4:=d4.at (k:=k) (o:=X #[U Y p0,U Y p1,U Y p2,U Y p3,U Y p4,U Y p5,U Y c,U Y9 u0,U Y9 u1,U Y9 u2,U Y 2] 247 (0,0)) K3 (by simp [hka,hkb])))
   all_goals
    go_wp2_with fail;go_meet;exact ⟨J,M4,K4,(D3.drew).trans (d4.mono (by simp))⟩
  case rest=>
   obtain ⟨rfl,M5,K5,D5⟩:=hcut;clear r9 r10 M3 K3 D3;obtain ⟨w5,rfl⟩:∃ w5,w5=wc:=⟨_,J⟩;go_wp2;go_ret2;exact ⟨J,M5,K5,D5⟩
theorem wok2 (hM:Zj 137 w a b s) (hk:w.heap[k]? =I (X #[U Y p0,U Y p1,U Y p2,U Y p3,U Y p4,U Y p5,U Y c,U Y9 u0,U Y9 u1,U Y9 u2,U Y 2] 247 (0,0))) (h0:0<=c) (h1:c < 256) (h2:0<=p4) (h3:p4<=4096) (he:s.acc (p4+3 * c+1)=0):
  Calls N 116 #[E (I ⟨k,0,O⟩),E (I ⟨a,0,O⟩)] w λ e w'=>e=R9 (.tuple #[.bool true,U Y 0])/\Zj 137 w' a b (s.store (p4+3 * c+1) u2)/\w'.heap[k]? =I (X #[U Y p0,U Y p1,U Y p2,U Y p3,U Y p4,U Y p5,U Y c,U Y9 u0,U Y9 u1,U Y9 u2,U Y 3] 247 (0,0))/\Ze [a,b,k] w w':=by
 have He:=Zh_ he;clear he;have hx:Vy p4 c 1=p4+3 * c+1:=by unfold Vy;rw [P9 (Xm h0 h1 h2 h3)]
 have Hx:=Zh_ hx;have Hp:=Zh_ (Xm h0 h1 h2 h3);clear hx;have hka:k≠a:=Zs hk hM.hd (by decide);have hkb:k≠b:=Zs hk hM.ws (by decide);obtain ⟨r0,r1,r2,r3,r4,r5,r6⟩:=Zc7e_ hk;have r10:=Za (i:=10) hk J;have hix:∀ wx:W,(Instr.index 248 (A9 #[U Y 2,U Y 0,U Y 1]) (U Y 2)).run N wx=.ok (U Y 1) wx:=λ _=>by kernel_rfl
 go_enter func116,ntmps116;go_upto_region 3 with fail
 go_cut [6,7] (λ A C wx=>A=U Y (Vy p4 c 1)/\C=U Y (Yz p4 c)/\Zj 137 wx a b s/\wx.heap[k]? =I (X #[U Y p0,U Y p1,U Y p2,U Y p3,U Y p4,U Y p5,U Y c,U Y9 u0,U Y9 u1,U Y9 u2,U Y 2] 247 (0,0))/\Ze [a,b,k] w wx)
 case first=>
  go_region_held3 (λ wx=>wx.cell? ⟨k,0,O⟩=I (U Y p0)/\wx.cell? ⟨k,1,O⟩=I (U Y p1)/\wx.cell? ⟨k,2,O⟩=I (U Y p2)/\wx.cell? ⟨k,3,O⟩=I (U Y p3)/\wx.cell? ⟨k,4,O⟩=I (U Y p4)/\wx.cell? ⟨k,5,O⟩=I (U Y p5)/\wx.cell? ⟨k,6,O⟩=I (U Y c)/\wx.cell? ⟨k,10,O⟩=I (U Y 2)) (first|exact ⟨r0,r1,r2,r3,r4,r5,r6,r10⟩|exact ⟨Za K2 J,Za K2 J,Za K2 J,Za K2 J,Za K2 J,Za K2 J,Za K2 J,Za K2 J⟩)
   (first|(go_at_call 59;refine (Uc p0 p1 p2 p3 p4 p5 c 1 (by omega) (by omega) _).mono ?_;rintro e w2 ⟨rfl,hw2⟩;have d2:Ze [] w.drew w2:=hw2 ▸ (Zr_ _ _).alloc _;clear hw2;have K2:=d2.at (k:=k) (o:=X #[U Y p0,U Y p1,U Y p2,U Y p3,U Y p4,U Y p5,U Y c,U Y9 u0,U Y9 u1,U Y9 u2,U Y 2] 247 (0,0)) hk (by simp)))
  all_goals
   go_wp2_with fail;go_meet;exact ⟨J,J,hM.drew.mod d2 (by simp) (by simp),K2,((Zr_ _ _).drew.trans d2).qj _⟩
 case rest=>
  obtain ⟨rfl,rfl,M3,K3,D3⟩:=hcut;clear r0 r1 r2 r3 r4 r5 r6 r10 hM hk;obtain ⟨w3,rfl⟩:∃ w3,w3=wc:=⟨_,J⟩;rw [Hx.out,Hp.out];have r9:=Za (i:=9) K3 J;have r10:=Za (i:=10) K3 J;go_upto_region 5 with fail
  go_cut [7] (λ A wx=>A=U Y (s.acc (p4+3 * c+1))/\Zj 137 wx a b (s.store (p4+3 * c+1) u2)/\wx.heap[k]? =I (X #[U Y p0,U Y p1,U Y p2,U Y p3,U Y p4,U Y p5,U Y c,U Y9 u0,U Y9 u1,U Y9 u2,U Y 2] 247 (0,0))/\Ze [a,b,k] w wx)
  case first=>
   go_region_held3 (λ wx=>wx.cell? ⟨k,9,O⟩=I (U Y9 u2)/\wx.cell? ⟨k,10,O⟩=I (U Y 2)) (first|exact ⟨r9,r10⟩|exact ⟨Za K4 J,Za K4 J⟩)
    (first|(go_at_call 148;refine (Vo M3.drew (p4+3 * c+1) u2).mono ?_;rintro e w4 ⟨rfl,M4,d4⟩;have K4:=d4.at (k:=k) (o:=X #[U Y p0,U Y p1,U Y p2,U Y p3,U Y p4,U Y p5,U Y c,U Y9 u0,U Y9 u1,U Y9 u2,U Y 2] 247 (0,0)) K3 (by simp [hka,hkb])))
   all_goals
    go_wp2_with fail;go_meet;exact ⟨J,M4,K4,(D3.drew).trans (d4.mono (by simp))⟩
  case rest=>
   obtain ⟨rfl,M5,K5,D5⟩:=hcut;clear r9 r10 M3 K3 D3;obtain ⟨w5,rfl⟩:∃ w5,w5=wc:=⟨_,J⟩;rw [He.out];have r10:=Za (i:=10) K5 J;have z10:=Zb (i:=10) K5;go_upto_region 9 with fail;have K6:=Zd (i:=10) (U Y 3) K5;simp only [List.setIfInBounds_toArray,List.set_cons_succ,List.set_cons_zero] at K6;have M6:=M5.other k 10 (U Y 3) (Ne.symm hka) (Ne.symm hkb);have D6:=D5.setCell ⟨k,10,O⟩ (U Y 3) (.inl (by simp));clear r10 z10 K5 M5 D5;generalize w5.setCell ⟨k,10,O⟩ (U Y 3)=w6 at *
   have r10:=Za (i:=10) K6 J;go_wp2;go_ret2;exact ⟨J,M6,K6,D6⟩
end
section
attribute [local go_sem] Zi
variable {a b k:Nat} {s:Zh} {w:W}
structure X1.Inv (r:X1):Prop where
 lo:0<=r.n
 hi:r.n<=3
theorem Fd {p4 c k:Int} (h:Yz p4 c=0):s.qp p4 c k=s.acc (p4+3 * c+k):=P9 h
theorem Fc {p4 c k v:Int} (h:Yz p4 c=0):s.zj p4 c k v=s.store (p4+3 * c+k) v:=P9 h
theorem H9 {p4 c k:Int} (h:Yz p4 c≠0):s.qp p4 c k=Yz p4 c:=Q9 h
theorem H7 {p4 c k v:Int} (h:Yz p4 c≠0):s.zj p4 c k v=s:=Q9 h
theorem Az (hM:Zj 137 w a b s) (r:X1) (hi:r.Inv) (hk:w.heap[k]? =I (.cells r.arr 247 (0,0))):
  Calls N 116 #[E (I ⟨k,0,O⟩),E (I ⟨a,0,O⟩)] w λ e w'=>e=R9 (.tuple #[.bool (r.qf s),U Y (r.err s)])/\Zj 137 w' a b (r.mem s)/\w'.heap[k]? =I (.cells (r.next s).arr 247 (0,0))/\Ze [a,b,k] w w':=by
 obtain ⟨p0,p1,p2,p3,p4,p5,c,u0,u1,u2,n⟩:=r;obtain ⟨hlo,hhi⟩:=hi;dsimp only at hlo hhi;have hp:n=0\/n=1\/n=2\/n=3:=by omega
 rcases hp with rfl|rfl|rfl|rfl
 ·have e1:(X1.mk p0 p1 p2 p3 p4 p5 c u0 u1 u2 0).err s=s.qp p4 c 2:=J;have e4:(X1.mk p0 p1 p2 p3 p4 p5 c u0 u1 u2 0).mem s=s.zj p4 c 2 u0:=J
  by_cases hx:Yz p4 c=0
  ·obtain ⟨h0,h1,h2,h3⟩:=V4 hx;have e5:s.qp p4 c 2=s.acc (p4+3 * c+2):=by rw [Fd hx]
   have e6:s.zj p4 c 2 u0=s.store (p4+3 * c+2) u0:=by rw [Fc hx]
   rw [e5] at e1;rw [e6] at e4
   by_cases he:s.acc (p4+3 * c+2)=0
   ·have e2:(X1.mk p0 p1 p2 p3 p4 p5 c u0 u1 u2 0).next s=(X1.mk p0 p1 p2 p3 p4 p5 c u0 u1 u2 1):=by unfold X1.next;rw [e1,P9 he];rfl
    have e3:(X1.mk p0 p1 p2 p3 p4 p5 c u0 u1 u2 0).qf s=false:=by unfold X1.qf;rw [e1,P9 he];rfl
    rw [e1,e2,e3,e4,he];exact wok0 hM hk h0 h1 h2 h3 he
   ·have e2:(X1.mk p0 p1 p2 p3 p4 p5 c u0 u1 u2 0).next s=(X1.mk p0 p1 p2 p3 p4 p5 c u0 u1 u2 0):=by unfold X1.next;rw [e1,Q9 he]
    have e3:(X1.mk p0 p1 p2 p3 p4 p5 c u0 u1 u2 0).qf s=false:=by unfold X1.qf;rw [e1,Q9 he]
    rw [e1,e2,e3,e4];exact wbadS0 hM hk h0 h1 h2 h3 (by simp [he])
  ·rw [H9 hx] at e1;rw [H7 hx] at e4;have e2:(X1.mk p0 p1 p2 p3 p4 p5 c u0 u1 u2 0).next s=(X1.mk p0 p1 p2 p3 p4 p5 c u0 u1 u2 0):=by unfold X1.next;rw [e1,Q9 hx]
   have e3:(X1.mk p0 p1 p2 p3 p4 p5 c u0 u1 u2 0).qf s=false:=by unfold X1.qf;rw [e1,Q9 hx]
   rw [e1,e2,e3,e4];exact wbadP0 hM hk (by simp [hx]) (by simp [hx])
 ·have e1:(X1.mk p0 p1 p2 p3 p4 p5 c u0 u1 u2 1).err s=s.qp p4 c 0:=J;have e4:(X1.mk p0 p1 p2 p3 p4 p5 c u0 u1 u2 1).mem s=s.zj p4 c 0 u1:=J
  by_cases hx:Yz p4 c=0
  ·obtain ⟨h0,h1,h2,h3⟩:=V4 hx;have e5:s.qp p4 c 0=s.acc (p4+3 * c):=by rw [Fd hx];rw [Int.add_zero]
   have e6:s.zj p4 c 0 u1=s.store (p4+3 * c) u1:=by rw [Fc hx];rw [Int.add_zero]
   rw [e5] at e1;rw [e6] at e4
   by_cases he:s.acc (p4+3 * c)=0
   ·have e2:(X1.mk p0 p1 p2 p3 p4 p5 c u0 u1 u2 1).next s=(X1.mk p0 p1 p2 p3 p4 p5 c u0 u1 u2 2):=by unfold X1.next;rw [e1,P9 he];rfl
    have e3:(X1.mk p0 p1 p2 p3 p4 p5 c u0 u1 u2 1).qf s=false:=by unfold X1.qf;rw [e1,P9 he];rfl
    rw [e1,e2,e3,e4,he];exact wok1 hM hk h0 h1 h2 h3 he
   ·have e2:(X1.mk p0 p1 p2 p3 p4 p5 c u0 u1 u2 1).next s=(X1.mk p0 p1 p2 p3 p4 p5 c u0 u1 u2 1):=by unfold X1.next;rw [e1,Q9 he]
    have e3:(X1.mk p0 p1 p2 p3 p4 p5 c u0 u1 u2 1).qf s=false:=by unfold X1.qf;rw [e1,Q9 he]
    rw [e1,e2,e3,e4];exact wbadS1 hM hk h0 h1 h2 h3 (by simp [he])
  ·rw [H9 hx] at e1;rw [H7 hx] at e4;have e2:(X1.mk p0 p1 p2 p3 p4 p5 c u0 u1 u2 1).next s=(X1.mk p0 p1 p2 p3 p4 p5 c u0 u1 u2 1):=by unfold X1.next;rw [e1,Q9 hx]
   have e3:(X1.mk p0 p1 p2 p3 p4 p5 c u0 u1 u2 1).qf s=false:=by unfold X1.qf;rw [e1,Q9 hx]
   rw [e1,e2,e3,e4];exact wbadP1 hM hk (by simp [hx]) (by simp [hx])
 ·have e1:(X1.mk p0 p1 p2 p3 p4 p5 c u0 u1 u2 2).err s=s.qp p4 c 1:=J;have e4:(X1.mk p0 p1 p2 p3 p4 p5 c u0 u1 u2 2).mem s=s.zj p4 c 1 u2:=J
  by_cases hx:Yz p4 c=0
  ·obtain ⟨h0,h1,h2,h3⟩:=V4 hx;have e5:s.qp p4 c 1=s.acc (p4+3 * c+1):=by rw [Fd hx]
   have e6:s.zj p4 c 1 u2=s.store (p4+3 * c+1) u2:=by rw [Fc hx]
   rw [e5] at e1;rw [e6] at e4
   by_cases he:s.acc (p4+3 * c+1)=0
   ·have e2:(X1.mk p0 p1 p2 p3 p4 p5 c u0 u1 u2 2).next s=(X1.mk p0 p1 p2 p3 p4 p5 c u0 u1 u2 3):=by unfold X1.next;rw [e1,P9 he];rfl
    have e3:(X1.mk p0 p1 p2 p3 p4 p5 c u0 u1 u2 2).qf s=true:=by unfold X1.qf;rw [e1,P9 he];rfl
    rw [e1,e2,e3,e4,he];exact wok2 hM hk h0 h1 h2 h3 he
   ·have e2:(X1.mk p0 p1 p2 p3 p4 p5 c u0 u1 u2 2).next s=(X1.mk p0 p1 p2 p3 p4 p5 c u0 u1 u2 2):=by unfold X1.next;rw [e1,Q9 he]
    have e3:(X1.mk p0 p1 p2 p3 p4 p5 c u0 u1 u2 2).qf s=false:=by unfold X1.qf;rw [e1,Q9 he]
    rw [e1,e2,e3,e4];exact wbadS2 hM hk h0 h1 h2 h3 (by simp [he])
  ·rw [H9 hx] at e1;rw [H7 hx] at e4;have e2:(X1.mk p0 p1 p2 p3 p4 p5 c u0 u1 u2 2).next s=(X1.mk p0 p1 p2 p3 p4 p5 c u0 u1 u2 2):=by unfold X1.next;rw [e1,Q9 hx]
   have e3:(X1.mk p0 p1 p2 p3 p4 p5 c u0 u1 u2 2).qf s=false:=by unfold X1.qf;rw [e1,Q9 hx]
   rw [e1,e2,e3,e4];exact wbadP2 hM hk (by simp [hx]) (by simp [hx])
 ·have e1:(X1.mk p0 p1 p2 p3 p4 p5 c u0 u1 u2 3).err s=3:=J;have e2:(X1.mk p0 p1 p2 p3 p4 p5 c u0 u1 u2 3).next s=(X1.mk p0 p1 p2 p3 p4 p5 c u0 u1 u2 3):=by unfold X1.next;rw [e1,Q9 (by decide)]
  have e3:(X1.mk p0 p1 p2 p3 p4 p5 c u0 u1 u2 3).qf s=false:=by unfold X1.qf;rw [e1,Q9 (by decide)]
  have e4:(X1.mk p0 p1 p2 p3 p4 p5 c u0 u1 u2 3).mem s=s:=J;rw [e1,e2,e3,e4];exact (wstep3 hk).mono λ e w' ⟨he,hw⟩=>⟨he,hw ▸ hM,hw ▸ hk,hw ▸ Zr_ _ _⟩
def atB (v n u st:Int):Nat:=if st < v then Zq u.toNat else Zq n.toNat
theorem at11_c (v n u st:Int) (w:W):Calls N 34 #[A9 #[U Y9 v,U Y9 n,U Y9 u],U Y9 st] w λ e w'=>e=R9 (Z V (atB v n u st))/\w'=w.alloc (X #[U Y9 v,U Y9 n,U Y9 u] 101):=by
 by_cases h:st < v
 ·have hv:atB v n u st=Zq u.toNat:=P9 h;rw [hv];clear hv;go_enter func34,ntmps34;go_wp2_with fail;refine (of_c u _).mono ?_;rintro e w1 ⟨rfl,rfl⟩;go_wp2;go_ret;exact ⟨J,J⟩
 ·have hv:atB v n u st=Zq n.toNat:=Q9 h;have h':v<=st:=Int.not_lt.1 h;rw [hv];clear hv h;go_enter func34,ntmps34;go_wp2_with fail;refine (of_c n _).mono ?_;rintro e w1 ⟨rfl,rfl⟩;go_wp2;go_ret;exact ⟨J,J⟩
end
end Go.Proofs.YtkhonmhnchdpkaaGreat
