/- A part of the proof; no condition. -/
import Derived.Test.YtkhonmhnchdpkaaGreatP02
import Derived.Test.YtkhonmhnchdpkaaGreatP10
import Derived.Test.YtkhonmhnchdpkaaGreatP11
set_option maxRecDepth 100000
set_option maxHeartbeats 40000000
namespace Go.Proofs.YtkhonmhnchdpkaaGreat
open Go.RowKit _root_.Go.Proofs.Tryz
section
theorem len_cq {a b:Nat} {s:Zh} {w:World} (hM:Zi 137 w a b s):
  Calls Tryz.prog 61 #[.pointer (some ⟨a,0,none⟩)] w λ e w'=>e=.returned (.int .i64 s.ws.length)/\w'=w:=by
 have hn:=hM.len;obtain ⟨h0,h1,h2,f1,f2⟩:=hM.cells;go_enter func61,ntmps61;go_wp2;go_ret;exact ⟨rfl,rfl⟩
theorem Uu {a b:Nat} {s:Zh} {w:World} (hM:Zi 137 w a b s) (i:Int):
  Calls Tryz.prog 32 #[.pointer (some ⟨a,0,none⟩),.int .i64 i] w λ e w'=>e=.returned (.tuple #[.int .u64 (s.peek i),.int .i64 (s.bad i)])/\w'=w:=by
 have hn:=hM.len;obtain ⟨h0,h1,h2,f1,f2⟩:=hM.cells;rcases Fj s i with ⟨hi,hc⟩|⟨k,rfl,hk,hc⟩|⟨k,rfl,hk,hc⟩
 ·have Hc:=Zh_ hc;clear hc;go_enter func32,ntmps32;go_wp2;go_ret2;have hc:=Hc.out;exact ⟨by simp [Zh.peek,hc],rfl⟩
 ·have Hc:=Zh_ hc;clear hc;go_enter func32,ntmps32;go_wp2;go_ret2;have hc:=Hc.out;exact ⟨by simp [Zh.peek,hc],rfl⟩
 ·have Hc:=Zh_ hc;clear hc;obtain ⟨hx,fx⟩:=hM.word hk;obtain ⟨x,hxe⟩:∃ x,x=s.ws.getD k 0:=⟨_,rfl⟩;rw [<-hxe] at hx;have Hx:=Zh_ hxe;clear hxe;go_enter func32,ntmps32;go_wp2;go_ret2;have hc:=Hc.out;have hxe:=Hx.out;exact ⟨by simp [Zh.peek,Zh.at,hc,hxe],rfl⟩
end
section
def Yz (p4 c:Int):Int:=if c < 0\/256<=c then 60 else if p4 < 0\/4096 < p4 then 30 else 0
def Va (p4 c k:Int):Int:=if Yz p4 c=0 then p4+3 * c+k else 0
theorem Cb {p4 c:Int} (h:c < 0\/256<=c):Yz p4 c=60:=if_pos h
theorem Ma {p4 c:Int} (h0:0<=c) (h8:c < 256) (h:p4 < 0\/4096 < p4):Yz p4 c=30:=by unfold Yz;rw [if_neg (by omega),if_pos h]
theorem Xi {p4 c:Int} (h0:0<=c) (h8:c < 256) (h:0<=p4) (h':p4<=4096):Yz p4 c=0:=by unfold Yz;rw [if_neg (by omega),if_neg (by omega)]
theorem Fq (p4 c:Int):((c < 0\/256<=c)/\Yz p4 c=60)\/(0<=c/\c < 256/\(p4 < 0\/4096 < p4)/\Yz p4 c=30)\/(0<=c/\c < 256/\0<=p4/\p4<=4096/\Yz p4 c=0):=by
 by_cases h:c < 0\/256<=c
 ·exact .inl ⟨h,Cb h⟩
 ·by_cases k:p4 < 0\/4096 < p4
  ·exact .inr (.inl ⟨by omega,by omega,k,Ma (by omega) (by omega) k⟩)
  ·exact .inr (.inr ⟨by omega,by omega,by omega,by omega,Xi (by omega) (by omega) (by omega) (by omega)⟩)
theorem Ve {p4 c:Int} (h:Yz p4 c=0):0<=c/\c < 256/\0<=p4/\p4<=4096:=by
 rcases Fq p4 c with ⟨_,e⟩|⟨_,_,_,e⟩|⟨a,b,c,d,_⟩
 ·omega
 ·omega
 ·exact ⟨a,b,c,d⟩
theorem A9 (p0 p1 p2 p3 p4 p5 c k:Int) (h:c < 0) (w:World):
  Calls Tryz.prog 59 #[.agg #[.int .i64 p0,.int .i64 p1,.int .i64 p2,.int .i64 p3,.int .i64 p4,.int .i64 p5],.int .i64 c,.int .i64 k] w λ e w'=>e=.returned (.tuple #[.int .i64 0,.int .i64 60])/\w'=w.alloc (.cells #[.int .i64 p0,.int .i64 p1,.int .i64 p2,.int .i64 p3,.int .i64 p4,.int .i64 p5] 74):=by
 go_enter func59,ntmps59;go_wp2;go_ret2;exact ⟨rfl,rfl⟩
theorem A8 (p0 p1 p2 p3 p4 p5 c k:Int) (h:256<=c) (w:World):
  Calls Tryz.prog 59 #[.agg #[.int .i64 p0,.int .i64 p1,.int .i64 p2,.int .i64 p3,.int .i64 p4,.int .i64 p5],.int .i64 c,.int .i64 k] w λ e w'=>e=.returned (.tuple #[.int .i64 0,.int .i64 60])/\w'=w.alloc (.cells #[.int .i64 p0,.int .i64 p1,.int .i64 p2,.int .i64 p3,.int .i64 p4,.int .i64 p5] 74):=by
 go_enter func59,ntmps59;go_wp2;go_ret2;exact ⟨rfl,rfl⟩
theorem A7 (p0 p1 p2 p3 p4 p5 c k:Int) (h0:0<=c) (h8:c < 256) (h:p4 < 0) (w:World):
  Calls Tryz.prog 59 #[.agg #[.int .i64 p0,.int .i64 p1,.int .i64 p2,.int .i64 p3,.int .i64 p4,.int .i64 p5],.int .i64 c,.int .i64 k] w λ e w'=>e=.returned (.tuple #[.int .i64 0,.int .i64 30])/\w'=w.alloc (.cells #[.int .i64 p0,.int .i64 p1,.int .i64 p2,.int .i64 p3,.int .i64 p4,.int .i64 p5] 74):=by
 go_enter func59,ntmps59;go_wp2;go_ret2;exact ⟨rfl,rfl⟩
theorem Az (p0 p1 p2 p3 p4 p5 c k:Int) (h0:0<=c) (h8:c < 256) (h:4096 < p4) (w:World):
  Calls Tryz.prog 59 #[.agg #[.int .i64 p0,.int .i64 p1,.int .i64 p2,.int .i64 p3,.int .i64 p4,.int .i64 p5],.int .i64 c,.int .i64 k] w λ e w'=>e=.returned (.tuple #[.int .i64 0,.int .i64 30])/\w'=w.alloc (.cells #[.int .i64 p0,.int .i64 p1,.int .i64 p2,.int .i64 p3,.int .i64 p4,.int .i64 p5] 74):=by
 go_enter func59,ntmps59;go_wp2;go_ret2;exact ⟨rfl,rfl⟩
theorem Kg (p0 p1 p2 p3 p4 p5 c k:Int) (h0:0<=c) (h8:c < 256) (h:0<=p4) (h':p4<=4096) (hk0:0<=k) (hk:k<=2) (w:World):
  Calls Tryz.prog 59 #[.agg #[.int .i64 p0,.int .i64 p1,.int .i64 p2,.int .i64 p3,.int .i64 p4,.int .i64 p5],.int .i64 c,.int .i64 k] w λ e w'=>e=.returned (.tuple #[.int .i64 (p4+3 * c+k),.int .i64 0])/\w'=w.alloc (.cells #[.int .i64 p0,.int .i64 p1,.int .i64 p2,.int .i64 p3,.int .i64 p4,.int .i64 p5] 74):=by
 go_enter func59,ntmps59;go_wp2;go_ret2;exact ⟨rfl,rfl⟩
theorem Vm (p0 p1 p2 p3 p4 p5 c k:Int) (hk0:0<=k) (hk:k<=2) (w:World):
  Calls Tryz.prog 59 #[.agg #[.int .i64 p0,.int .i64 p1,.int .i64 p2,.int .i64 p3,.int .i64 p4,.int .i64 p5],.int .i64 c,.int .i64 k] w λ e w'=>e=.returned (.tuple #[.int .i64 (Va p4 c k),.int .i64 (Yz p4 c)])/\w'=w.alloc (.cells #[.int .i64 p0,.int .i64 p1,.int .i64 p2,.int .i64 p3,.int .i64 p4,.int .i64 p5] 74):=by
 rcases Fq p4 c with ⟨h,he⟩|⟨h0,h8,h,he⟩|⟨h0,h8,h,h',he⟩
 ·have ha:Va p4 c k=0:=by unfold Va;rw [he];rfl
  rw [ha,he];rcases h with h|h
  ·exact A9 _ _ _ _ _ _ _ _ h w
  ·exact A8 _ _ _ _ _ _ _ _ h w
 ·have ha:Va p4 c k=0:=by unfold Va;rw [he];rfl
  rw [ha,he];rcases h with h|h
  ·exact A7 _ _ _ _ _ _ _ _ h0 h8 h w
  ·exact Az _ _ _ _ _ _ _ _ h0 h8 h w
 ·have ha:Va p4 c k=p4+3 * c+k:=by unfold Va;rw [he];rfl
  rw [ha,he];exact Kg _ _ _ _ _ _ _ _ h0 h8 h h' hk0 hk w
end
section
attribute [local go_sem] Zj
def Zh.cellE (s:Zh) (p4 c k:Int):Int:=if Yz p4 c=0 then s.acc (p4+3 * c+k) else Yz p4 c
def Zh.cellM (s:Zh) (p4 c k:Int):Zh:=if Yz p4 c=0 then s.load (p4+3 * c+k) else s
def Zh.cellV (s:Zh) (p4 c k:Int):Int:=if Yz p4 c=0 then s.got (p4+3 * c+k) else 0
variable {a b:Nat} {s:Zh} {w:World}
theorem V1 (hM:Zi 137 w a b s) (p0 p1 p2 p3 p4 p5 c k:Int) (hk0:0<=k) (hk:k<=2):
  Calls Tryz.prog 144 #[.pointer (some ⟨a,0,none⟩),.agg #[.int .i64 p0,.int .i64 p1,.int .i64 p2,.int .i64 p3,.int .i64 p4,.int .i64 p5],.int .i64 c,.int .i64 k] w λ e w'=>e=.returned (.tuple #[.int .u64 (s.cellV p4 c k),.int .i64 (s.cellE p4 c k)])/\Zi 137 w' a b (s.cellM p4 c k)/\Ze [a,b] w w':=by
 by_cases he:Yz p4 c=0
 ·obtain ⟨h0,h1,h2,h3⟩:=Ve he;have hv:s.cellV p4 c k=s.got (p4+3 * c+k):=if_pos he;have hx:s.cellE p4 c k=s.acc (p4+3 * c+k):=if_pos he;have hm:s.cellM p4 c k=s.load (p4+3 * c+k):=if_pos he;rw [hv,hx,hm];clear hv hx hm he;go_enter func144,ntmps144;go_wp2_with fail;refine (Kg _ _ _ _ _ _ _ _ h0 h1 h2 h3 hk0 hk _).mono ?_;rintro e w1 ⟨rfl,rfl⟩;go_wp2_with fail;refine (Vz ((hM.alloc _).alloc _) _).mono ?_;rintro e w2 ⟨rfl,M2,d2⟩;go_wp2;go_ret2;exact ⟨rfl,M2,(((Zr_ _ _).alloc _).alloc _).trans d2⟩
 ·have hv:s.cellV p4 c k=0:=if_neg he;have hx:s.cellE p4 c k=Yz p4 c:=if_neg he;have hm:s.cellM p4 c k=s:=if_neg he;have hz:(Yz p4 c !=0)=true:=by simp [he]
  rw [hv,hx,hm];clear hv hx hm he;go_enter func144,ntmps144;go_wp2_with fail;refine (Vm _ _ _ _ _ _ _ _ hk0 hk _).mono ?_;rintro e w1 ⟨rfl,rfl⟩;go_wp2;go_ret2;exact ⟨rfl,(hM.alloc _).alloc _,((Zr_ _ _).alloc _).alloc _⟩
def Zh.nowV (s:Zh) (p4 c:Int):Nat:=if s.cellE p4 c 1=0 then Zt (s.cellV p4 c 1).toNat else 0
theorem now11 (hM:Zi 137 w a b s) (p0 p1 p2 p3 p4 p5 c:Int):
  Calls Tryz.prog 109 #[.pointer (some ⟨a,0,none⟩),.agg #[.int .i64 p0,.int .i64 p1,.int .i64 p2,.int .i64 p3,.int .i64 p4,.int .i64 p5],.int .i64 c] w λ e w'=>e=.returned (.tuple #[.float .f64 (s.nowV p4 c),.int .i64 (s.cellE p4 c 1)])/\Zi 137 w' a b (s.cellM p4 c 1)/\Ze [a,b] w w':=by
 by_cases he:s.cellE p4 c 1=0
 ·have hv:s.nowV p4 c=Zt (s.cellV p4 c 1).toNat:=if_pos he;rw [hv,he];have He:=Zh_ he;clear hv he;go_enter func109,ntmps109;go_wp2_with fail;refine (V1 (hM.alloc _) _ _ _ _ _ _ _ 1 (by omega) (by omega)).mono ?_;rintro e w1 ⟨rfl,M1,d1⟩;rw [He.out];go_wp2_with fail;refine (of_c _ _).mono ?_;rintro e w2 ⟨rfl,hw2⟩;have hw2':=hw2.symm;subst hw2';go_wp2;go_ret2;exact ⟨rfl,M1,((Zr_ _ _).alloc _).trans d1⟩
 ·have hv:s.nowV p4 c=0:=if_neg he;have hz:(s.cellE p4 c 1 !=0)=true:=by simp [he]
  rw [hv];clear hv he;go_enter func109,ntmps109;go_wp2_with fail;refine (V1 (hM.alloc _) _ _ _ _ _ _ _ 1 (by omega) (by omega)).mono ?_;rintro e w1 ⟨rfl,M1,d1⟩;go_wp2;go_ret2;exact ⟨rfl,M1,((Zr_ _ _).alloc _).trans d1⟩
theorem Wa (hM:Zi 137 w a b s) (p0 p1 p2 p3 p4 p5 c:Int) (h:Yz p4 c=0) (hb:s.bad (p4+3 * c+2)=0):
  Calls Tryz.prog 33 #[.pointer (some ⟨a,0,none⟩),.agg #[.int .i64 p0,.int .i64 p1,.int .i64 p2,.int .i64 p3,.int .i64 p4,.int .i64 p5],.int .i64 c] w λ e w'=>e=.returned (.tuple #[.agg #[.int .u64 (s.peek (p4+3 * c)),.int .u64 (s.peek (p4+3 * c+1)),.int .u64 (s.peek (p4+3 * c+2))],.int .i64 0])/\Zi 137 w' a b s/\Ze [] w w':=by
 obtain ⟨h0,h1,h2,h3⟩:=Ve h;have HB:=Zh_ hb;clear h hb;go_enter func33,ntmps33;go_wp2_with fail;refine (Kg _ _ _ _ _ _ _ 0 h0 h1 h2 h3 (by omega) (by omega) _).mono ?_;rintro e w1 ⟨rfl,rfl⟩;go_wp2_with fail;refine (Uu (((hM.alloc _).alloc _).alloc _) _).mono ?_;rintro e w1 ⟨rfl,rfl⟩;rw [HB.out];go_wp2_with fail;refine (Uu ((((hM.alloc _).alloc _).alloc _).alloc _) _).mono ?_;rintro e w1 ⟨rfl,rfl⟩;go_wp2_with fail;refine (Uu ((((hM.alloc _).alloc _).alloc _).alloc _) _).mono ?_;rintro e w1 ⟨rfl,rfl⟩;go_wp2;exact bodyPost_ret (v:=.tuple #[.agg #[.int .u64 (s.peek (p4+3 * c)),.int .u64 (s.peek (p4+3 * c+1)),.int .u64 (s.peek (p4+3 * c+2))],.int .i64 0]) (by simp [results,results33,go_sem]) rfl ⟨rfl,(((hM.alloc _).alloc _).alloc _).alloc _,((((Zr_ _ _).alloc _).alloc _).alloc _).alloc _⟩
end
section
attribute [local go_sem] Zj
structure Y1 where
 (p0 p1 p2 p3 p4 p5 c st pa ve:Int)
 va:Nat
 sp:Int
 tn:Bool
def Y1.arr (r:Y1):Array Value:=#[.int .i64 r.p0,.int .i64 r.p1,.int .i64 r.p2,.int .i64 r.p3,.int .i64 r.p4,.int .i64 r.p5,.int .i64 r.c,.int .u64 r.st,.int .i64 r.pa,.int .u64 r.ve,.float .f64 r.va,.int .i64 r.sp,.bool r.tn]
def Y1.which (r:Y1):Int:=if r.pa=1 then 1 else if r.pa=3 then 2 else 0
def Y1.err (r:Y1) (s:Zh):Int:=if r.pa=4 then 3 else s.cellE r.p4 r.c r.which
def Y1.mem (r:Y1) (s:Zh):Zh:=if r.pa=4 then s else s.cellM r.p4 r.c r.which
def Y1.took (r:Y1) (w:Int):Y1:=
 if r.pa=0 then {r with ve:=w,pa:=if r.st < w then 3 else 1,sp:=wrap64 (r.sp+1)}
 else if r.pa=1 then {r with va:=Zt w.toNat,pa:=2,sp:=wrap64 (r.sp+1)}
 else if r.pa=2 then {r with tn:=w !=r.ve,pa:=if w=r.ve then 4 else 3,sp:=wrap64 (r.sp+1)}
 else {r with va:=Zt w.toNat,pa:=4,sp:=wrap64 (r.sp+1)}
def Y1.next (r:Y1) (s:Zh):Y1:=if r.err s=0 then r.took (s.cellV r.p4 r.c r.which) else r
def Y1.over (r:Y1) (s:Zh):Bool:=if r.err s=0 then (r.next s).pa==4 else false
variable {a b k:Nat} {s:Zh} {w:World} {p0 p1 p2 p3 p4 p5 c st pa ve sp:Int} {va:Nat} {tn:Bool}
theorem read11 (p0 p1 p2 p3 p4 p5 c st:Int) (w:World):
  Calls Tryz.prog 240 #[.agg #[.int .i64 p0,.int .i64 p1,.int .i64 p2,.int .i64 p3,.int .i64 p4,.int .i64 p5],.int .i64 c,.int .u64 st] w λ e w'=>∃ k,e=.returned (.pointer (some ⟨k,0,none⟩))/\w'.heap[k]? =some (.cells (Y1.mk p0 p1 p2 p3 p4 p5 c st 0 0 0 0 false).arr 287 (0,0))/\w.heap.size<=k/\Ze [] w w':=by
 go_enter func240,ntmps240;go_wp2;go_ret;exact ⟨_,rfl,by have h:=heap_alloc_new (w.alloc (.cells #[.int .i64 p0,.int .i64 p1,.int .i64 p2,.int .i64 p3,.int .i64 p4,.int .i64 p5] 74)) (.cells (Y1.mk p0 p1 p2 p3 p4 p5 c st 0 0 0 0 false).arr 287);rw [World.size_alloc] at h;exact h,by omega,((Zr_ _ _).alloc _).alloc _⟩
theorem next0 (hk:w.heap[k]? =some (.cells #[.int .i64 p0,.int .i64 p1,.int .i64 p2,.int .i64 p3,.int .i64 p4,.int .i64 p5,.int .i64 c,.int .u64 st,.int .i64 0,.int .u64 ve,.float .f64 va,.int .i64 sp,.bool tn] 287 (0,0))):
  Calls Tryz.prog 243 #[.pointer (some ⟨k,0,none⟩)] w λ e w'=>e=.returned (.tuple #[.int .i64 0,.func (.func 244) #[.pointer (some ⟨k,0,none⟩)] #[]])/\w'=w:=by
 have r8:w.cell? ⟨k,8,none⟩=some (.int .i64 0):=Za hk rfl;go_enter func243,ntmps243;go_wp2;go_ret2;exact ⟨rfl,rfl⟩
theorem next1 (hk:w.heap[k]? =some (.cells #[.int .i64 p0,.int .i64 p1,.int .i64 p2,.int .i64 p3,.int .i64 p4,.int .i64 p5,.int .i64 c,.int .u64 st,.int .i64 1,.int .u64 ve,.float .f64 va,.int .i64 sp,.bool tn] 287 (0,0))):
  Calls Tryz.prog 243 #[.pointer (some ⟨k,0,none⟩)] w λ e w'=>e=.returned (.tuple #[.int .i64 1,.func (.func 245) #[.pointer (some ⟨k,0,none⟩)] #[]])/\w'=w:=by
 have r8:w.cell? ⟨k,8,none⟩=some (.int .i64 1):=Za hk rfl;go_enter func243,ntmps243;go_wp2;go_ret2;exact ⟨rfl,rfl⟩
theorem next2 (hk:w.heap[k]? =some (.cells #[.int .i64 p0,.int .i64 p1,.int .i64 p2,.int .i64 p3,.int .i64 p4,.int .i64 p5,.int .i64 c,.int .u64 st,.int .i64 2,.int .u64 ve,.float .f64 va,.int .i64 sp,.bool tn] 287 (0,0))):
  Calls Tryz.prog 243 #[.pointer (some ⟨k,0,none⟩)] w λ e w'=>e=.returned (.tuple #[.int .i64 0,.func (.func 246) #[.pointer (some ⟨k,0,none⟩)] #[]])/\w'=w:=by
 have r8:w.cell? ⟨k,8,none⟩=some (.int .i64 2):=Za hk rfl;go_enter func243,ntmps243;go_wp2;go_ret2;exact ⟨rfl,rfl⟩
theorem next3 (hk:w.heap[k]? =some (.cells #[.int .i64 p0,.int .i64 p1,.int .i64 p2,.int .i64 p3,.int .i64 p4,.int .i64 p5,.int .i64 c,.int .u64 st,.int .i64 3,.int .u64 ve,.float .f64 va,.int .i64 sp,.bool tn] 287 (0,0))):
  Calls Tryz.prog 243 #[.pointer (some ⟨k,0,none⟩)] w λ e w'=>e=.returned (.tuple #[.int .i64 2,.func (.func 247) #[.pointer (some ⟨k,0,none⟩)] #[]])/\w'=w:=by
 have r8:w.cell? ⟨k,8,none⟩=some (.int .i64 3):=Za hk rfl;go_enter func243,ntmps243;go_wp2;go_ret2;exact ⟨rfl,rfl⟩
theorem begin_gt (hk:w.heap[k]? =some (.cells #[.int .i64 p0,.int .i64 p1,.int .i64 p2,.int .i64 p3,.int .i64 p4,.int .i64 p5,.int .i64 c,.int .u64 st,.int .i64 0,.int .u64 ve,.float .f64 va,.int .i64 sp,.bool tn] 287 (0,0))) (v:Int) (hv:st < v):
  Calls Tryz.prog 244 #[.pointer (some ⟨k,0,none⟩),.int .u64 v] w λ e w'=>e=.returned (.tuple #[])/\w'.heap[k]? =some (.cells #[.int .i64 p0,.int .i64 p1,.int .i64 p2,.int .i64 p3,.int .i64 p4,.int .i64 p5,.int .i64 c,.int .u64 st,.int .i64 3,.int .u64 v,.float .f64 va,.int .i64 sp,.bool tn] 287 (0,0))/\Ze [k] w w':=by
 have r7:w.cell? ⟨k,7,none⟩=some (.int .u64 st):=Za hk rfl;have r8:w.cell? ⟨k,8,none⟩=some (.int .i64 0):=Za hk rfl;have r9:w.cell? ⟨k,9,none⟩=some (.int .u64 ve):=Za hk rfl;have f7:=Zb (i:=7) hk;have f8:=Zb (i:=8) hk;have f9:=Zb (i:=9) hk;have hkl:=lt_of_block hk;go_enter func244,ntmps244;go_wp2;go_end0;refine ⟨rfl,?_,?_⟩
 ·have h1:=Zd (i:=9) (.int .u64 v) hk;simp only [List.setIfInBounds_toArray,List.set_cons_succ,List.set_cons_zero] at h1;have h2:=Zd (i:=8) (.int .i64 1) h1;simp only [List.setIfInBounds_toArray,List.set_cons_succ,List.set_cons_zero] at h2;have h3:=Zd (i:=8) (.int .i64 3) h2;simp only [List.setIfInBounds_toArray,List.set_cons_succ,List.set_cons_zero] at h3;exact h3
 ·repeat (first|exact Zr_ _ _|refine Ze.setCell ?_ _ _ (.inl (by simp))|refine Ze.alloc ?_ _)
theorem begin_le (hk:w.heap[k]? =some (.cells #[.int .i64 p0,.int .i64 p1,.int .i64 p2,.int .i64 p3,.int .i64 p4,.int .i64 p5,.int .i64 c,.int .u64 st,.int .i64 0,.int .u64 ve,.float .f64 va,.int .i64 sp,.bool tn] 287 (0,0))) (v:Int) (hv:v<=st):
  Calls Tryz.prog 244 #[.pointer (some ⟨k,0,none⟩),.int .u64 v] w λ e w'=>e=.returned (.tuple #[])/\w'.heap[k]? =some (.cells #[.int .i64 p0,.int .i64 p1,.int .i64 p2,.int .i64 p3,.int .i64 p4,.int .i64 p5,.int .i64 c,.int .u64 st,.int .i64 1,.int .u64 v,.float .f64 va,.int .i64 sp,.bool tn] 287 (0,0))/\Ze [k] w w':=by
 have r7:w.cell? ⟨k,7,none⟩=some (.int .u64 st):=Za hk rfl;have r8:w.cell? ⟨k,8,none⟩=some (.int .i64 0):=Za hk rfl;have r9:w.cell? ⟨k,9,none⟩=some (.int .u64 ve):=Za hk rfl;have f7:=Zb (i:=7) hk;have f8:=Zb (i:=8) hk;have f9:=Zb (i:=9) hk;have hkl:=lt_of_block hk;go_enter func244,ntmps244;go_wp2;go_end0;refine ⟨rfl,?_,?_⟩
 ·have h1:=Zd (i:=9) (.int .u64 v) hk;simp only [List.setIfInBounds_toArray,List.set_cons_succ,List.set_cons_zero] at h1;have h2:=Zd (i:=8) (.int .i64 1) h1;simp only [List.setIfInBounds_toArray,List.set_cons_succ,List.set_cons_zero] at h2;exact h2
 ·repeat (first|exact Zr_ _ _|refine Ze.setCell ?_ _ _ (.inl (by simp))|refine Ze.alloc ?_ _)
theorem take1 (hk:w.heap[k]? =some (.cells #[.int .i64 p0,.int .i64 p1,.int .i64 p2,.int .i64 p3,.int .i64 p4,.int .i64 p5,.int .i64 c,.int .u64 st,.int .i64 1,.int .u64 ve,.float .f64 va,.int .i64 sp,.bool tn] 287 (0,0))) (v:Int):
  Calls Tryz.prog 245 #[.pointer (some ⟨k,0,none⟩),.int .u64 v] w λ e w'=>e=.returned (.tuple #[])/\w'.heap[k]? =some (.cells #[.int .i64 p0,.int .i64 p1,.int .i64 p2,.int .i64 p3,.int .i64 p4,.int .i64 p5,.int .i64 c,.int .u64 st,.int .i64 2,.int .u64 ve,.float .f64 (Zt v.toNat),.int .i64 sp,.bool tn] 287 (0,0))/\Ze [k] w w':=by
 have r8:w.cell? ⟨k,8,none⟩=some (.int .i64 1):=Za hk rfl;have r10:w.cell? ⟨k,10,none⟩=some (.float .f64 va):=Za hk rfl;have f8:=Zb (i:=8) hk;have f10:=Zb (i:=10) hk;have hkl:=lt_of_block hk;go_enter func245,ntmps245;go_wp2_with fail;refine (of_c v _).mono ?_;rintro e w1 ⟨rfl,hw1⟩;have hw1':=hw1.symm;subst hw1';go_wp2;go_end0;refine ⟨rfl,?_,?_⟩
 ·have h1:=Zd (i:=10) (.float .f64 (Zt v.toNat)) hk;simp only [List.setIfInBounds_toArray,List.set_cons_succ,List.set_cons_zero] at h1;have h2:=Zd (i:=8) (.int .i64 2) h1;simp only [List.setIfInBounds_toArray,List.set_cons_succ,List.set_cons_zero] at h2;exact h2
 ·repeat (first|exact Zr_ _ _|refine Ze.setCell ?_ _ _ (.inl (by simp))|refine Ze.alloc ?_ _)
theorem again_eq (hk:w.heap[k]? =some (.cells #[.int .i64 p0,.int .i64 p1,.int .i64 p2,.int .i64 p3,.int .i64 p4,.int .i64 p5,.int .i64 c,.int .u64 st,.int .i64 2,.int .u64 ve,.float .f64 va,.int .i64 sp,.bool tn] 287 (0,0))) (v:Int) (hv:(v !=ve)=false):
  Calls Tryz.prog 246 #[.pointer (some ⟨k,0,none⟩),.int .u64 v] w λ e w'=>e=.returned (.tuple #[])/\w'.heap[k]? =some (.cells #[.int .i64 p0,.int .i64 p1,.int .i64 p2,.int .i64 p3,.int .i64 p4,.int .i64 p5,.int .i64 c,.int .u64 st,.int .i64 4,.int .u64 ve,.float .f64 va,.int .i64 sp,.bool false] 287 (0,0))/\Ze [k] w w':=by
 have r8:w.cell? ⟨k,8,none⟩=some (.int .i64 2):=Za hk rfl;have r9:w.cell? ⟨k,9,none⟩=some (.int .u64 ve):=Za hk rfl;have r12:w.cell? ⟨k,12,none⟩=some (.bool tn):=Za hk rfl;have f8:=Zb (i:=8) hk;have f9:=Zb (i:=9) hk;have f12:=Zb (i:=12) hk;have hkl:=lt_of_block hk;go_enter func246,ntmps246;go_wp2;go_end0;refine ⟨rfl,?_,?_⟩
 ·have h1:=Zd (i:=12) (.bool false) hk;simp only [List.setIfInBounds_toArray,List.set_cons_succ,List.set_cons_zero] at h1;have h2:=Zd (i:=8) (.int .i64 4) h1;simp only [List.setIfInBounds_toArray,List.set_cons_succ,List.set_cons_zero] at h2;exact h2
 ·repeat (first|exact Zr_ _ _|refine Ze.setCell ?_ _ _ (.inl (by simp))|refine Ze.alloc ?_ _)
theorem again_ne (hk:w.heap[k]? =some (.cells #[.int .i64 p0,.int .i64 p1,.int .i64 p2,.int .i64 p3,.int .i64 p4,.int .i64 p5,.int .i64 c,.int .u64 st,.int .i64 2,.int .u64 ve,.float .f64 va,.int .i64 sp,.bool tn] 287 (0,0))) (v:Int) (hv:(v !=ve)=true):
  Calls Tryz.prog 246 #[.pointer (some ⟨k,0,none⟩),.int .u64 v] w λ e w'=>e=.returned (.tuple #[])/\w'.heap[k]? =some (.cells #[.int .i64 p0,.int .i64 p1,.int .i64 p2,.int .i64 p3,.int .i64 p4,.int .i64 p5,.int .i64 c,.int .u64 st,.int .i64 3,.int .u64 ve,.float .f64 va,.int .i64 sp,.bool true] 287 (0,0))/\Ze [k] w w':=by
 have r8:w.cell? ⟨k,8,none⟩=some (.int .i64 2):=Za hk rfl;have r9:w.cell? ⟨k,9,none⟩=some (.int .u64 ve):=Za hk rfl;have r12:w.cell? ⟨k,12,none⟩=some (.bool tn):=Za hk rfl;have f8:=Zb (i:=8) hk;have f9:=Zb (i:=9) hk;have f12:=Zb (i:=12) hk;have hkl:=lt_of_block hk;go_enter func246,ntmps246;go_wp2;go_end0;refine ⟨rfl,?_,?_⟩
 ·have h1:=Zd (i:=12) (.bool true) hk;simp only [List.setIfInBounds_toArray,List.set_cons_succ,List.set_cons_zero] at h1;have h2:=Zd (i:=8) (.int .i64 4) h1;simp only [List.setIfInBounds_toArray,List.set_cons_succ,List.set_cons_zero] at h2;have h3:=Zd (i:=8) (.int .i64 3) h2;simp only [List.setIfInBounds_toArray,List.set_cons_succ,List.set_cons_zero] at h3;exact h3
 ·repeat (first|exact Zr_ _ _|refine Ze.setCell ?_ _ _ (.inl (by simp))|refine Ze.alloc ?_ _)
theorem end3 (hk:w.heap[k]? =some (.cells #[.int .i64 p0,.int .i64 p1,.int .i64 p2,.int .i64 p3,.int .i64 p4,.int .i64 p5,.int .i64 c,.int .u64 st,.int .i64 3,.int .u64 ve,.float .f64 va,.int .i64 sp,.bool tn] 287 (0,0))) (v:Int):
  Calls Tryz.prog 247 #[.pointer (some ⟨k,0,none⟩),.int .u64 v] w λ e w'=>e=.returned (.tuple #[])/\w'.heap[k]? =some (.cells #[.int .i64 p0,.int .i64 p1,.int .i64 p2,.int .i64 p3,.int .i64 p4,.int .i64 p5,.int .i64 c,.int .u64 st,.int .i64 4,.int .u64 ve,.float .f64 (Zt v.toNat),.int .i64 sp,.bool tn] 287 (0,0))/\Ze [k] w w':=by
 have r8:w.cell? ⟨k,8,none⟩=some (.int .i64 3):=Za hk rfl;have r10:w.cell? ⟨k,10,none⟩=some (.float .f64 va):=Za hk rfl;have f8:=Zb (i:=8) hk;have f10:=Zb (i:=10) hk;have hkl:=lt_of_block hk;go_enter func247,ntmps247;go_wp2_with fail;refine (of_c v _).mono ?_;rintro e w1 ⟨rfl,hw1⟩;have hw1':=hw1.symm;subst hw1';go_wp2;go_end0;refine ⟨rfl,?_,?_⟩
 ·have h1:=Zd (i:=10) (.float .f64 (Zt v.toNat)) hk;simp only [List.setIfInBounds_toArray,List.set_cons_succ,List.set_cons_zero] at h1;have h2:=Zd (i:=8) (.int .i64 4) h1;simp only [List.setIfInBounds_toArray,List.set_cons_succ,List.set_cons_zero] at h2;exact h2
 ·repeat (first|exact Zr_ _ _|refine Ze.setCell ?_ _ _ (.inl (by simp))|refine Ze.alloc ?_ _)
end
end Go.Proofs.YtkhonmhnchdpkaaGreat
