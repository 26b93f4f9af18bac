/- A part of the proof; no condition. -/
import Derived.Test.YtkhonmhnchdpkaaGreatP13
import Derived.Test.YtkhonmhnchdpkaaGreatP14
set_option maxRecDepth 100000
set_option maxHeartbeats 40000000
namespace Go.Proofs.YtkhonmhnchdpkaaGreat
open Go.RowKit _root_.Go.Proofs.Tryz
section
theorem Ug {a b:Nat} {s:Zh} {w:World} (hM:Zi 137 w a b s):
  Calls Tryz.prog 226 #[.pointer (some ⟨a,0,none⟩)] w λ e w'=>e=.returned (.tuple #[])/\Zi 137 w' a b (s.opened)/\Ze [a,b] w w':=by
 have ha:=hM.lta;have hb:=hM.ltb;have hn:=hM.len;have hne:=hM.ne;obtain ⟨h0,h1,h2,f1,f2⟩:=hM.cells;go_enter func226,ntmps226;go_wp2;go_end0;exact ⟨rfl,hM.opened,(by repeat (first|exact Zr_ _ _|refine Ze.drew ?_|refine Ze.alloc ?_ _|refine Ze.set_l ?_ _ _|refine Ze.set_r ?_ _ _))⟩
theorem J5 {a b:Nat} {s:Zh} {w:World} (hM:Zi 137 w a b s):
  Calls Tryz.prog 61 #[.pointer (some ⟨a,0,none⟩)] w λ e w'=>e=.returned (.int .i64 s.ws.length)/\Zi 137 w' a b (s)/\Ze [a,b] w w':=by
 have ha:=hM.lta;have hb:=hM.ltb;have hn:=hM.len;have hne:=hM.ne;obtain ⟨h0,h1,h2,f1,f2⟩:=hM.cells;go_enter func61,ntmps61;go_wp2;go_ret;exact ⟨rfl,hM,Zr_ _ _⟩
end
section
theorem Zp {w:World} {a b:Nat} {c d:Array Value} {t u:TypeId} {f g:Nat×Nat} (h:w.heap[a]? =some (.cells c t f)) (k:w.heap[b]? =some (.cells d u g)) (hn:t≠u):a≠b:=by
 rintro rfl;rw [h] at k;cases k
 exact hn rfl
theorem Pn (s:Zh) (i v:Int):(s.poke i v).ws.length=s.ws.length:=by unfold Zh.poke;split <;> simp [Zh.put]
end
section
attribute [local go_sem] Zj
structure Xu where
 (p0 p1 p2 p3 p4 p5 c u0 u1 u2 n:Int)
def Xu.arr (r:Xu):Array Value:=#[.int .i64 r.p0,.int .i64 r.p1,.int .i64 r.p2,.int .i64 r.p3,.int .i64 r.p4,.int .i64 r.p5,.int .i64 r.c,.int .u64 r.u0,.int .u64 r.u1,.int .u64 r.u2,.int .i64 r.n]
def Xu.which (r:Xu):Int:=if r.n=0 then 2 else if r.n=1 then 0 else 1
def Xu.val (r:Xu):Int:=if r.n=0 then r.u0 else if r.n=1 then r.u1 else r.u2
def Zh.cellS (s:Zh) (p4 c k v:Int):Zh:=if Yz p4 c=0 then s.store (p4+3 * c+k) v else s
def Xu.err (r:Xu) (s:Zh):Int:=if r.n=3 then 3 else s.cellE r.p4 r.c r.which
def Xu.mem (r:Xu) (s:Zh):Zh:=if r.n=3 then s else s.cellS r.p4 r.c r.which r.val
def Xu.next (r:Xu) (s:Zh):Xu:=if r.err s=0 then {r with n:=r.n+1} else r
def Xu.over (r:Xu) (s:Zh):Bool:=if r.err s=0 then r.n+1==3 else false
variable {a b k:Nat} {s:Zh} {w:World} {p0 p1 p2 p3 p4 p5 c u0 u1 u2 n:Int}
theorem Tx (w:World) (x y:Obj):((w.alloc x).alloc y).heap[w.heap.size+1]? =some y:=by
 have h:=heap_alloc_new (w.alloc x) y
 rwa [World.size_alloc] at h
theorem write11 (p0 p1 p2 p3 p4 p5 c ve:Int) (x y:Nat) (w:World):
  Calls Tryz.prog 115 #[.agg #[.int .i64 p0,.int .i64 p1,.int .i64 p2,.int .i64 p3,.int .i64 p4,.int .i64 p5],.int .i64 c,.int .u64 ve,.float .f64 x,.float .f64 y] w λ e w'=>∃ k,e=.returned (.pointer (some ⟨k,0,none⟩))/\w'.heap[k]? =some (.cells (Xu.mk p0 p1 p2 p3 p4 p5 c (Zt x:Int) ve (Zt y:Int) 0).arr 247 (0,0))/\w.heap.size<=k/\Ze [] w w':=by
 have B1:(w.alloc (.cells #[.int .i64 p0,.int .i64 p1,.int .i64 p2,.int .i64 p3,.int .i64 p4,.int .i64 p5] 74)).heap[w.heap.size]? =some (.cells #[.int .i64 p0,.int .i64 p1,.int .i64 p2,.int .i64 p3,.int .i64 p4,.int .i64 p5] 74 (0,0)):=heap_alloc_new _ _;have q0:(w.alloc (.cells #[.int .i64 p0,.int .i64 p1,.int .i64 p2,.int .i64 p3,.int .i64 p4,.int .i64 p5] 74)).cell? ⟨w.heap.size,0,none⟩=some (.int .i64 p0):=Za B1 rfl;have q1:(w.alloc (.cells #[.int .i64 p0,.int .i64 p1,.int .i64 p2,.int .i64 p3,.int .i64 p4,.int .i64 p5] 74)).cell? ⟨w.heap.size,1,none⟩=some (.int .i64 p1):=Za B1 rfl;have q2:(w.alloc (.cells #[.int .i64 p0,.int .i64 p1,.int .i64 p2,.int .i64 p3,.int .i64 p4,.int .i64 p5] 74)).cell? ⟨w.heap.size,2,none⟩=some (.int .i64 p2):=Za B1 rfl;have q3:(w.alloc (.cells #[.int .i64 p0,.int .i64 p1,.int .i64 p2,.int .i64 p3,.int .i64 p4,.int .i64 p5] 74)).cell? ⟨w.heap.size,3,none⟩=some (.int .i64 p3):=Za B1 rfl;have q4:(w.alloc (.cells #[.int .i64 p0,.int .i64 p1,.int .i64 p2,.int .i64 p3,.int .i64 p4,.int .i64 p5] 74)).cell? ⟨w.heap.size,4,none⟩=some (.int .i64 p4):=Za B1 rfl;have q5:(w.alloc (.cells #[.int .i64 p0,.int .i64 p1,.int .i64 p2,.int .i64 p3,.int .i64 p4,.int .i64 p5] 74)).cell? ⟨w.heap.size,5,none⟩=some (.int .i64 p5):=Za B1 rfl;go_enter func115,ntmps115;go_upto_region 1 with fail
 go_region_held3 (λ wx=>wx.cell? ⟨w.heap.size,0,none⟩=some (.int .i64 p0)/\wx.cell? ⟨w.heap.size,1,none⟩=some (.int .i64 p1)/\wx.cell? ⟨w.heap.size,2,none⟩=some (.int .i64 p2)/\wx.cell? ⟨w.heap.size,3,none⟩=some (.int .i64 p3)/\wx.cell? ⟨w.heap.size,4,none⟩=some (.int .i64 p4)/\wx.cell? ⟨w.heap.size,5,none⟩=some (.int .i64 p5)) (first|exact ⟨q0,q1,q2,q3,q4,q5⟩|(go_split_ands;refine ⟨?_,?_,?_,?_,?_,?_⟩ <;> (refine Za (Zf _ (Zf _ B1)) ?_;rfl))|go_keep)
  (first
   |(go_at_call_of 63 (Value.float .f64 x);refine (Gm x _).mono ?_;rintro e w2 ⟨rfl,rfl⟩)
   |(go_at_call_of 63 (Value.float .f64 y);refine (Gm y _).mono ?_;rintro e w2 ⟨rfl,rfl⟩))
 all_goals
  go_wp2;go_ret;exact ⟨_,rfl,by have h:=Tx w (.cells #[.int .i64 p0,.int .i64 p1,.int .i64 p2,.int .i64 p3,.int .i64 p4,.int .i64 p5] 74) (.cells (Xu.mk p0 p1 p2 p3 p4 p5 c (Zt x:Int) ve (Zt y:Int) 0).arr 247);exact h,by omega,by repeat (first|exact Zr_ _ _|refine Ze.drew ?_|refine Ze.alloc ?_ _)⟩
theorem wstep3 (hk:w.heap[k]? =some (.cells #[.int .i64 p0,.int .i64 p1,.int .i64 p2,.int .i64 p3,.int .i64 p4,.int .i64 p5,.int .i64 c,.int .u64 u0,.int .u64 u1,.int .u64 u2,.int .i64 3] 247 (0,0))):
  Calls Tryz.prog 116 #[.pointer (some ⟨k,0,none⟩),.pointer (some ⟨a,0,none⟩)] w λ e w'=>e=.returned (.tuple #[.bool false,.int .i64 3])/\w'=w:=by
 have r10:w.cell? ⟨k,10,none⟩=some (.int .i64 3):=Za hk rfl;go_enter func116,ntmps116;go_wp2;go_ret2;exact ⟨rfl,rfl⟩
theorem wbadP0 (hM:Zi 137 w a b s) (hk:w.heap[k]? =some (.cells #[.int .i64 p0,.int .i64 p1,.int .i64 p2,.int .i64 p3,.int .i64 p4,.int .i64 p5,.int .i64 c,.int .u64 u0,.int .u64 u1,.int .u64 u2,.int .i64 0] 247 (0,0))) (he:(Yz p4 c==0)=false) (he':(Yz p4 c !=0)=true):
  Calls Tryz.prog 116 #[.pointer (some ⟨k,0,none⟩),.pointer (some ⟨a,0,none⟩)] w λ e w'=>e=.returned (.tuple #[.bool false,.int .i64 (Yz p4 c)])/\Zi 137 w' a b s/\w'.heap[k]? =some (.cells #[.int .i64 p0,.int .i64 p1,.int .i64 p2,.int .i64 p3,.int .i64 p4,.int .i64 p5,.int .i64 c,.int .u64 u0,.int .u64 u1,.int .u64 u2,.int .i64 0] 247 (0,0))/\Ze [a,b,k] w w':=by
 have hka:k≠a:=Zp hk hM.hd (by decide);have hkb:k≠b:=Zp hk hM.ws (by decide);obtain ⟨r0,r1,r2,r3,r4,r5,r6⟩:=Zc7e_ hk;have r10:w.cell? ⟨k,10,none⟩=some (.int .i64 0):=Za hk rfl;have hix:∀ wx:World,(Instr.index 248 (.agg #[.int .i64 2,.int .i64 0,.int .i64 1]) (.int .i64 0)).run Tryz.prog wx=.ok (.int .i64 2) wx:=λ _=>by kernel_rfl
 go_enter func116,ntmps116;go_upto_region 3 with fail
 go_cut [6,7] (λ A C wx=>A=.int .i64 (Va p4 c 2)/\C=.int .i64 (Yz p4 c)/\Zi 137 wx a b s/\wx.heap[k]? =some (.cells #[.int .i64 p0,.int .i64 p1,.int .i64 p2,.int .i64 p3,.int .i64 p4,.int .i64 p5,.int .i64 c,.int .u64 u0,.int .u64 u1,.int .u64 u2,.int .i64 0] 247 (0,0))/\Ze [a,b,k] w wx)
 case first=>
  go_region_held3 (λ wx=>wx.cell? ⟨k,0,none⟩=some (.int .i64 p0)/\wx.cell? ⟨k,1,none⟩=some (.int .i64 p1)/\wx.cell? ⟨k,2,none⟩=some (.int .i64 p2)/\wx.cell? ⟨k,3,none⟩=some (.int .i64 p3)/\wx.cell? ⟨k,4,none⟩=some (.int .i64 p4)/\wx.cell? ⟨k,5,none⟩=some (.int .i64 p5)/\wx.cell? ⟨k,6,none⟩=some (.int .i64 c)/\wx.cell? ⟨k,10,none⟩=some (.int .i64 0)) (first|exact ⟨r0,r1,r2,r3,r4,r5,r6,r10⟩|exact ⟨Za K2 rfl,Za K2 rfl,Za K2 rfl,Za K2 rfl,Za K2 rfl,Za K2 rfl,Za K2 rfl,Za K2 rfl⟩)
   (first|(go_at_call 59;refine (Vm p0 p1 p2 p3 p4 p5 c 2 (by omega) (by omega) _).mono ?_;rintro e w2 ⟨rfl,hw2⟩;have d2:Ze [] w.drew w2:=hw2 ▸ (Zr_ _ _).alloc _;clear hw2;have K2:=d2.at (k:=k) (o:=.cells #[.int .i64 p0,.int .i64 p1,.int .i64 p2,.int .i64 p3,.int .i64 p4,.int .i64 p5,.int .i64 c,.int .u64 u0,.int .u64 u1,.int .u64 u2,.int .i64 0] 247 (0,0)) hk (by simp)))
  all_goals
   go_wp2_with fail;go_meet;exact ⟨rfl,rfl,hM.drew.mod d2 (by simp) (by simp),K2,((Zr_ _ _).drew.trans d2).weak _⟩
 case rest=>
  obtain ⟨rfl,rfl,M3,K3,D3⟩:=hcut;clear r0 r1 r2 r3 r4 r5 r6 r10 hM hk;obtain ⟨w3,rfl⟩:∃ w3,w3=wc:=⟨_,rfl⟩;go_wp2;go_ret2;exact ⟨rfl,M3,K3,D3⟩
theorem wbadS0 (hM:Zi 137 w a b s) (hk:w.heap[k]? =some (.cells #[.int .i64 p0,.int .i64 p1,.int .i64 p2,.int .i64 p3,.int .i64 p4,.int .i64 p5,.int .i64 c,.int .u64 u0,.int .u64 u1,.int .u64 u2,.int .i64 0] 247 (0,0))) (h0:0<=c) (h1:c < 256) (h2:0<=p4) (h3:p4<=4096) (he:(s.acc (p4+3 * c+2) !=0)=true):
  Calls Tryz.prog 116 #[.pointer (some ⟨k,0,none⟩),.pointer (some ⟨a,0,none⟩)] w λ e w'=>e=.returned (.tuple #[.bool false,.int .i64 (s.acc (p4+3 * c+2))])/\Zi 137 w' a b (s.store (p4+3 * c+2) u0)/\w'.heap[k]? =some (.cells #[.int .i64 p0,.int .i64 p1,.int .i64 p2,.int .i64 p3,.int .i64 p4,.int .i64 p5,.int .i64 c,.int .u64 u0,.int .u64 u1,.int .u64 u2,.int .i64 0] 247 (0,0))/\Ze [a,b,k] w w':=by
 have hx:Va p4 c 2=p4+3 * c+2:=by unfold Va;rw [if_pos (Xi h0 h1 h2 h3)]
 have Hx:=Zh_ hx;have Hp:=Zh_ (Xi h0 h1 h2 h3);clear hx;have hka:k≠a:=Zp hk hM.hd (by decide);have hkb:k≠b:=Zp hk hM.ws (by decide);obtain ⟨r0,r1,r2,r3,r4,r5,r6⟩:=Zc7e_ hk;have r10:w.cell? ⟨k,10,none⟩=some (.int .i64 0):=Za hk rfl;have hix:∀ wx:World,(Instr.index 248 (.agg #[.int .i64 2,.int .i64 0,.int .i64 1]) (.int .i64 0)).run Tryz.prog wx=.ok (.int .i64 2) wx:=λ _=>by kernel_rfl
 go_enter func116,ntmps116;go_upto_region 3 with fail
 go_cut [6,7] (λ A C wx=>A=.int .i64 (Va p4 c 2)/\C=.int .i64 (Yz p4 c)/\Zi 137 wx a b s/\wx.heap[k]? =some (.cells #[.int .i64 p0,.int .i64 p1,.int .i64 p2,.int .i64 p3,.int .i64 p4,.int .i64 p5,.int .i64 c,.int .u64 u0,.int .u64 u1,.int .u64 u2,.int .i64 0] 247 (0,0))/\Ze [a,b,k] w wx)
 case first=>
  go_region_held3 (λ wx=>wx.cell? ⟨k,0,none⟩=some (.int .i64 p0)/\wx.cell? ⟨k,1,none⟩=some (.int .i64 p1)/\wx.cell? ⟨k,2,none⟩=some (.int .i64 p2)/\wx.cell? ⟨k,3,none⟩=some (.int .i64 p3)/\wx.cell? ⟨k,4,none⟩=some (.int .i64 p4)/\wx.cell? ⟨k,5,none⟩=some (.int .i64 p5)/\wx.cell? ⟨k,6,none⟩=some (.int .i64 c)/\wx.cell? ⟨k,10,none⟩=some (.int .i64 0)) (first|exact ⟨r0,r1,r2,r3,r4,r5,r6,r10⟩|exact ⟨Za K2 rfl,Za K2 rfl,Za K2 rfl,Za K2 rfl,Za K2 rfl,Za K2 rfl,Za K2 rfl,Za K2 rfl⟩)
   (first|(go_at_call 59;refine (Vm p0 p1 p2 p3 p4 p5 c 2 (by omega) (by omega) _).mono ?_;rintro e w2 ⟨rfl,hw2⟩;have d2:Ze [] w.drew w2:=hw2 ▸ (Zr_ _ _).alloc _;clear hw2;have K2:=d2.at (k:=k) (o:=.cells #[.int .i64 p0,.int .i64 p1,.int .i64 p2,.int .i64 p3,.int .i64 p4,.int .i64 p5,.int .i64 c,.int .u64 u0,.int .u64 u1,.int .u64 u2,.int .i64 0] 247 (0,0)) hk (by simp)))
  all_goals
   go_wp2_with fail;go_meet;exact ⟨rfl,rfl,hM.drew.mod d2 (by simp) (by simp),K2,((Zr_ _ _).drew.trans d2).weak _⟩
 case rest=>
  obtain ⟨rfl,rfl,M3,K3,D3⟩:=hcut;clear r0 r1 r2 r3 r4 r5 r6 r10 hM hk;obtain ⟨w3,rfl⟩:∃ w3,w3=wc:=⟨_,rfl⟩;rw [Hx.out,Hp.out];have r7:w3.cell? ⟨k,7,none⟩=some (.int .u64 u0):=Za K3 rfl;have r10:w3.cell? ⟨k,10,none⟩=some (.int .i64 0):=Za K3 rfl;go_upto_region 5 with fail
  go_cut [7] (λ A wx=>A=.int .i64 (s.acc (p4+3 * c+2))/\Zi 137 wx a b (s.store (p4+3 * c+2) u0)/\wx.heap[k]? =some (.cells #[.int .i64 p0,.int .i64 p1,.int .i64 p2,.int .i64 p3,.int .i64 p4,.int .i64 p5,.int .i64 c,.int .u64 u0,.int .u64 u1,.int .u64 u2,.int .i64 0] 247 (0,0))/\Ze [a,b,k] w wx)
  case first=>
   go_region_held3 (λ wx=>wx.cell? ⟨k,7,none⟩=some (.int .u64 u0)/\wx.cell? ⟨k,10,none⟩=some (.int .i64 0)) (first|exact ⟨r7,r10⟩|exact ⟨Za K4 rfl,Za K4 rfl⟩)
    (first|(go_at_call 148;refine (Qx M3.drew (p4+3 * c+2) u0).mono ?_;rintro e w4 ⟨rfl,M4,d4⟩;have K4:=d4.at (k:=k) (o:=.cells #[.int .i64 p0,.int .i64 p1,.int .i64 p2,.int .i64 p3,.int .i64 p4,.int .i64 p5,.int .i64 c,.int .u64 u0,.int .u64 u1,.int .u64 u2,.int .i64 0] 247 (0,0)) K3 (by simp [hka,hkb])))
   all_goals
    go_wp2_with fail;go_meet;exact ⟨rfl,M4,K4,(D3.drew).trans (d4.mono (by simp))⟩
  case rest=>
   obtain ⟨rfl,M5,K5,D5⟩:=hcut;clear r7 r10 M3 K3 D3;obtain ⟨w5,rfl⟩:∃ w5,w5=wc:=⟨_,rfl⟩;go_wp2;go_ret2;exact ⟨rfl,M5,K5,D5⟩
theorem wok0 (hM:Zi 137 w a b s) (hk:w.heap[k]? =some (.cells #[.int .i64 p0,.int .i64 p1,.int .i64 p2,.int .i64 p3,.int .i64 p4,.int .i64 p5,.int .i64 c,.int .u64 u0,.int .u64 u1,.int .u64 u2,.int .i64 0] 247 (0,0))) (h0:0<=c) (h1:c < 256) (h2:0<=p4) (h3:p4<=4096) (he:s.acc (p4+3 * c+2)=0):
  Calls Tryz.prog 116 #[.pointer (some ⟨k,0,none⟩),.pointer (some ⟨a,0,none⟩)] w λ e w'=>e=.returned (.tuple #[.bool false,.int .i64 0])/\Zi 137 w' a b (s.store (p4+3 * c+2) u0)/\w'.heap[k]? =some (.cells #[.int .i64 p0,.int .i64 p1,.int .i64 p2,.int .i64 p3,.int .i64 p4,.int .i64 p5,.int .i64 c,.int .u64 u0,.int .u64 u1,.int .u64 u2,.int .i64 1] 247 (0,0))/\Ze [a,b,k] w w':=by
 have He:=Zh_ he;clear he;have hx:Va p4 c 2=p4+3 * c+2:=by unfold Va;rw [if_pos (Xi h0 h1 h2 h3)]
 have Hx:=Zh_ hx;have Hp:=Zh_ (Xi h0 h1 h2 h3);clear hx;have hka:k≠a:=Zp hk hM.hd (by decide);have hkb:k≠b:=Zp hk hM.ws (by decide);obtain ⟨r0,r1,r2,r3,r4,r5,r6⟩:=Zc7e_ hk;have r10:w.cell? ⟨k,10,none⟩=some (.int .i64 0):=Za hk rfl;have hix:∀ wx:World,(Instr.index 248 (.agg #[.int .i64 2,.int .i64 0,.int .i64 1]) (.int .i64 0)).run Tryz.prog wx=.ok (.int .i64 2) wx:=λ _=>by kernel_rfl
 go_enter func116,ntmps116;go_upto_region 3 with fail
 go_cut [6,7] (λ A C wx=>A=.int .i64 (Va p4 c 2)/\C=.int .i64 (Yz p4 c)/\Zi 137 wx a b s/\wx.heap[k]? =some (.cells #[.int .i64 p0,.int .i64 p1,.int .i64 p2,.int .i64 p3,.int .i64 p4,.int .i64 p5,.int .i64 c,.int .u64 u0,.int .u64 u1,.int .u64 u2,.int .i64 0] 247 (0,0))/\Ze [a,b,k] w wx)
 case first=>
  go_region_held3 (λ wx=>wx.cell? ⟨k,0,none⟩=some (.int .i64 p0)/\wx.cell? ⟨k,1,none⟩=some (.int .i64 p1)/\wx.cell? ⟨k,2,none⟩=some (.int .i64 p2)/\wx.cell? ⟨k,3,none⟩=some (.int .i64 p3)/\wx.cell? ⟨k,4,none⟩=some (.int .i64 p4)/\wx.cell? ⟨k,5,none⟩=some (.int .i64 p5)/\wx.cell? ⟨k,6,none⟩=some (.int .i64 c)/\wx.cell? ⟨k,10,none⟩=some (.int .i64 0)) (first|exact ⟨r0,r1,r2,r3,r4,r5,r6,r10⟩|exact ⟨Za K2 rfl,Za K2 rfl,Za K2 rfl,Za K2 rfl,Za K2 rfl,Za K2 rfl,Za K2 rfl,Za K2 rfl⟩)
   (first|(go_at_call 59;refine (Vm p0 p1 p2 p3 p4 p5 c 2 (by omega) (by omega) _).mono ?_;rintro e w2 ⟨rfl,hw2⟩;have d2:Ze [] w.drew w2:=hw2 ▸ (Zr_ _ _).alloc _;clear hw2;have K2:=d2.at (k:=k) (o:=.cells #[.int .i64 p0,.int .i64 p1,.int .i64 p2,.int .i64 p3,.int .i64 p4,.int .i64 p5,.int .i64 c,.int .u64 u0,.int .u64 u1,.int .u64 u2,.int .i64 0] 247 (0,0)) hk (by simp)))
  all_goals
   go_wp2_with fail;go_meet;exact ⟨rfl,rfl,hM.drew.mod d2 (by simp) (by simp),K2,((Zr_ _ _).drew.trans d2).weak _⟩
 case rest=>
  obtain ⟨rfl,rfl,M3,K3,D3⟩:=hcut;clear r0 r1 r2 r3 r4 r5 r6 r10 hM hk;obtain ⟨w3,rfl⟩:∃ w3,w3=wc:=⟨_,rfl⟩;rw [Hx.out,Hp.out];have r7:w3.cell? ⟨k,7,none⟩=some (.int .u64 u0):=Za K3 rfl;have r10:w3.cell? ⟨k,10,none⟩=some (.int .i64 0):=Za K3 rfl;go_upto_region 5 with fail
  go_cut [7] (λ A wx=>A=.int .i64 (s.acc (p4+3 * c+2))/\Zi 137 wx a b (s.store (p4+3 * c+2) u0)/\wx.heap[k]? =some (.cells #[.int .i64 p0,.int .i64 p1,.int .i64 p2,.int .i64 p3,.int .i64 p4,.int .i64 p5,.int .i64 c,.int .u64 u0,.int .u64 u1,.int .u64 u2,.int .i64 0] 247 (0,0))/\Ze [a,b,k] w wx)
  case first=>
   go_region_held3 (λ wx=>wx.cell? ⟨k,7,none⟩=some (.int .u64 u0)/\wx.cell? ⟨k,10,none⟩=some (.int .i64 0)) (first|exact ⟨r7,r10⟩|exact ⟨Za K4 rfl,Za K4 rfl⟩)
    (first|(go_at_call 148;refine (Qx M3.drew (p4+3 * c+2) u0).mono ?_;rintro e w4 ⟨rfl,M4,d4⟩;have K4:=d4.at (k:=k) (o:=.cells #[.int .i64 p0,.int .i64 p1,.int .i64 p2,.int .i64 p3,.int .i64 p4,.int .i64 p5,.int .i64 c,.int .u64 u0,.int .u64 u1,.int .u64 u2,.int .i64 0] 247 (0,0)) K3 (by simp [hka,hkb])))
   all_goals
    go_wp2_with fail;go_meet;exact ⟨rfl,M4,K4,(D3.drew).trans (d4.mono (by simp))⟩
  case rest=>
   obtain ⟨rfl,M5,K5,D5⟩:=hcut;clear r7 r10 M3 K3 D3;obtain ⟨w5,rfl⟩:∃ w5,w5=wc:=⟨_,rfl⟩;rw [He.out];have r10:w5.cell? ⟨k,10,none⟩=some (.int .i64 0):=Za K5 rfl;have z10:=Zb (i:=10) K5;go_upto_region 9 with fail;have K6:=Zd (i:=10) (.int .i64 1) K5;simp only [List.setIfInBounds_toArray,List.set_cons_succ,List.set_cons_zero] at K6;have M6:=M5.other k 10 (.int .i64 1) (Ne.symm hka) (Ne.symm hkb);have D6:=D5.setCell ⟨k,10,none⟩ (.int .i64 1) (.inl (by simp));clear r10 z10 K5 M5 D5;generalize w5.setCell ⟨k,10,none⟩ (.int .i64 1)=w6 at *
   have r10:w6.cell? ⟨k,10,none⟩=some (.int .i64 1):=Za K6 rfl;go_wp2;go_ret2;exact ⟨rfl,M6,K6,D6⟩
theorem wbadP1 (hM:Zi 137 w a b s) (hk:w.heap[k]? =some (.cells #[.int .i64 p0,.int .i64 p1,.int .i64 p2,.int .i64 p3,.int .i64 p4,.int .i64 p5,.int .i64 c,.int .u64 u0,.int .u64 u1,.int .u64 u2,.int .i64 1] 247 (0,0))) (he:(Yz p4 c==0)=false) (he':(Yz p4 c !=0)=true):
  Calls Tryz.prog 116 #[.pointer (some ⟨k,0,none⟩),.pointer (some ⟨a,0,none⟩)] w λ e w'=>e=.returned (.tuple #[.bool false,.int .i64 (Yz p4 c)])/\Zi 137 w' a b s/\w'.heap[k]? =some (.cells #[.int .i64 p0,.int .i64 p1,.int .i64 p2,.int .i64 p3,.int .i64 p4,.int .i64 p5,.int .i64 c,.int .u64 u0,.int .u64 u1,.int .u64 u2,.int .i64 1] 247 (0,0))/\Ze [a,b,k] w w':=by
 have hka:k≠a:=Zp hk hM.hd (by decide);have hkb:k≠b:=Zp hk hM.ws (by decide);obtain ⟨r0,r1,r2,r3,r4,r5,r6⟩:=Zc7e_ hk;have r10:w.cell? ⟨k,10,none⟩=some (.int .i64 1):=Za hk rfl;have hix:∀ wx:World,(Instr.index 248 (.agg #[.int .i64 2,.int .i64 0,.int .i64 1]) (.int .i64 1)).run Tryz.prog wx=.ok (.int .i64 0) wx:=λ _=>by kernel_rfl
 go_enter func116,ntmps116;go_upto_region 3 with fail
 go_cut [6,7] (λ A C wx=>A=.int .i64 (Va p4 c 0)/\C=.int .i64 (Yz p4 c)/\Zi 137 wx a b s/\wx.heap[k]? =some (.cells #[.int .i64 p0,.int .i64 p1,.int .i64 p2,.int .i64 p3,.int .i64 p4,.int .i64 p5,.int .i64 c,.int .u64 u0,.int .u64 u1,.int .u64 u2,.int .i64 1] 247 (0,0))/\Ze [a,b,k] w wx)
 case first=>
  go_region_held3 (λ wx=>wx.cell? ⟨k,0,none⟩=some (.int .i64 p0)/\wx.cell? ⟨k,1,none⟩=some (.int .i64 p1)/\wx.cell? ⟨k,2,none⟩=some (.int .i64 p2)/\wx.cell? ⟨k,3,none⟩=some (.int .i64 p3)/\wx.cell? ⟨k,4,none⟩=some (.int .i64 p4)/\wx.cell? ⟨k,5,none⟩=some (.int .i64 p5)/\wx.cell? ⟨k,6,none⟩=some (.int .i64 c)/\wx.cell? ⟨k,10,none⟩=some (.int .i64 1)) (first|exact ⟨r0,r1,r2,r3,r4,r5,r6,r10⟩|exact ⟨Za K2 rfl,Za K2 rfl,Za K2 rfl,Za K2 rfl,Za K2 rfl,Za K2 rfl,Za K2 rfl,Za K2 rfl⟩)
   (first|(go_at_call 59;refine (Vm p0 p1 p2 p3 p4 p5 c 0 (by omega) (by omega) _).mono ?_;rintro e w2 ⟨rfl,hw2⟩;have d2:Ze [] w.drew w2:=hw2 ▸ (Zr_ _ _).alloc _;clear hw2;have K2:=d2.at (k:=k) (o:=.cells #[.int .i64 p0,.int .i64 p1,.int .i64 p2,.int .i64 p3,.int .i64 p4,.int .i64 p5,.int .i64 c,.int .u64 u0,.int .u64 u1,.int .u64 u2,.int .i64 1] 247 (0,0)) hk (by simp)))
  all_goals
   go_wp2_with fail;go_meet;exact ⟨rfl,rfl,hM.drew.mod d2 (by simp) (by simp),K2,((Zr_ _ _).drew.trans d2).weak _⟩
 case rest=>
  obtain ⟨rfl,rfl,M3,K3,D3⟩:=hcut;clear r0 r1 r2 r3 r4 r5 r6 r10 hM hk;obtain ⟨w3,rfl⟩:∃ w3,w3=wc:=⟨_,rfl⟩;go_wp2;go_ret2;exact ⟨rfl,M3,K3,D3⟩
theorem wbadS1 (hM:Zi 137 w a b s) (hk:w.heap[k]? =some (.cells #[.int .i64 p0,.int .i64 p1,.int .i64 p2,.int .i64 p3,.int .i64 p4,.int .i64 p5,.int .i64 c,.int .u64 u0,.int .u64 u1,.int .u64 u2,.int .i64 1] 247 (0,0))) (h0:0<=c) (h1:c < 256) (h2:0<=p4) (h3:p4<=4096) (he:(s.acc (p4+3 * c) !=0)=true):
  Calls Tryz.prog 116 #[.pointer (some ⟨k,0,none⟩),.pointer (some ⟨a,0,none⟩)] w λ e w'=>e=.returned (.tuple #[.bool false,.int .i64 (s.acc (p4+3 * c))])/\Zi 137 w' a b (s.store (p4+3 * c) u1)/\w'.heap[k]? =some (.cells #[.int .i64 p0,.int .i64 p1,.int .i64 p2,.int .i64 p3,.int .i64 p4,.int .i64 p5,.int .i64 c,.int .u64 u0,.int .u64 u1,.int .u64 u2,.int .i64 1] 247 (0,0))/\Ze [a,b,k] w w':=by
 have hx:Va p4 c 0=p4+3 * c:=by unfold Va;rw [if_pos (Xi h0 h1 h2 h3)];omega
 have Hx:=Zh_ hx;have Hp:=Zh_ (Xi h0 h1 h2 h3);clear hx;have hka:k≠a:=Zp hk hM.hd (by decide);have hkb:k≠b:=Zp hk hM.ws (by decide);obtain ⟨r0,r1,r2,r3,r4,r5,r6⟩:=Zc7e_ hk;have r10:w.cell? ⟨k,10,none⟩=some (.int .i64 1):=Za hk rfl;have hix:∀ wx:World,(Instr.index 248 (.agg #[.int .i64 2,.int .i64 0,.int .i64 1]) (.int .i64 1)).run Tryz.prog wx=.ok (.int .i64 0) wx:=λ _=>by kernel_rfl
 go_enter func116,ntmps116;go_upto_region 3 with fail
 go_cut [6,7] (λ A C wx=>A=.int .i64 (Va p4 c 0)/\C=.int .i64 (Yz p4 c)/\Zi 137 wx a b s/\wx.heap[k]? =some (.cells #[.int .i64 p0,.int .i64 p1,.int .i64 p2,.int .i64 p3,.int .i64 p4,.int .i64 p5,.int .i64 c,.int .u64 u0,.int .u64 u1,.int .u64 u2,.int .i64 1] 247 (0,0))/\Ze [a,b,k] w wx)
 case first=>
  go_region_held3 (λ wx=>wx.cell? ⟨k,0,none⟩=some (.int .i64 p0)/\wx.cell? ⟨k,1,none⟩=some (.int .i64 p1)/\wx.cell? ⟨k,2,none⟩=some (.int .i64 p2)/\wx.cell? ⟨k,3,none⟩=some (.int .i64 p3)/\wx.cell? ⟨k,4,none⟩=some (.int .i64 p4)/\wx.cell? ⟨k,5,none⟩=some (.int .i64 p5)/\wx.cell? ⟨k,6,none⟩=some (.int .i64 c)/\wx.cell? ⟨k,10,none⟩=some (.int .i64 1)) (first|exact ⟨r0,r1,r2,r3,r4,r5,r6,r10⟩|exact ⟨Za K2 rfl,Za K2 rfl,Za K2 rfl,Za K2 rfl,Za K2 rfl,Za K2 rfl,Za K2 rfl,Za K2 rfl⟩)
   (first|(go_at_call 59;refine (Vm p0 p1 p2 p3 p4 p5 c 0 (by omega) (by omega) _).mono ?_;rintro e w2 ⟨rfl,hw2⟩;have d2:Ze [] w.drew w2:=hw2 ▸ (Zr_ _ _).alloc _;clear hw2;have K2:=d2.at (k:=k) (o:=.cells #[.int .i64 p0,.int .i64 p1,.int .i64 p2,.int .i64 p3,.int .i64 p4,.int .i64 p5,.int .i64 c,.int .u64 u0,.int .u64 u1,.int .u64 u2,.int .i64 1] 247 (0,0)) hk (by simp)))
  all_goals
   go_wp2_with fail;go_meet;exact ⟨rfl,rfl,hM.drew.mod d2 (by simp) (by simp),K2,((Zr_ _ _).drew.trans d2).weak _⟩
 case rest=>
  obtain ⟨rfl,rfl,M3,K3,D3⟩:=hcut;clear r0 r1 r2 r3 r4 r5 r6 r10 hM hk;obtain ⟨w3,rfl⟩:∃ w3,w3=wc:=⟨_,rfl⟩;rw [Hx.out,Hp.out];have r8:w3.cell? ⟨k,8,none⟩=some (.int .u64 u1):=Za K3 rfl;have r10:w3.cell? ⟨k,10,none⟩=some (.int .i64 1):=Za K3 rfl;go_upto_region 5 with fail
  go_cut [7] (λ A wx=>A=.int .i64 (s.acc (p4+3 * c))/\Zi 137 wx a b (s.store (p4+3 * c) u1)/\wx.heap[k]? =some (.cells #[.int .i64 p0,.int .i64 p1,.int .i64 p2,.int .i64 p3,.int .i64 p4,.int .i64 p5,.int .i64 c,.int .u64 u0,.int .u64 u1,.int .u64 u2,.int .i64 1] 247 (0,0))/\Ze [a,b,k] w wx)
  case first=>
   go_region_held3 (λ wx=>wx.cell? ⟨k,8,none⟩=some (.int .u64 u1)/\wx.cell? ⟨k,10,none⟩=some (.int .i64 1)) (first|exact ⟨r8,r10⟩|exact ⟨Za K4 rfl,Za K4 rfl⟩)
    (first|(go_at_call 148;refine (Qx M3.drew (p4+3 * c) u1).mono ?_;rintro e w4 ⟨rfl,M4,d4⟩;have K4:=d4.at (k:=k) (o:=.cells #[.int .i64 p0,.int .i64 p1,.int .i64 p2,.int .i64 p3,.int .i64 p4,.int .i64 p5,.int .i64 c,.int .u64 u0,.int .u64 u1,.int .u64 u2,.int .i64 1] 247 (0,0)) K3 (by simp [hka,hkb])))
   all_goals
    go_wp2_with fail;go_meet;exact ⟨rfl,M4,K4,(D3.drew).trans (d4.mono (by simp))⟩
  case rest=>
   obtain ⟨rfl,M5,K5,D5⟩:=hcut;clear r8 r10 M3 K3 D3;obtain ⟨w5,rfl⟩:∃ w5,w5=wc:=⟨_,rfl⟩;go_wp2;go_ret2;exact ⟨rfl,M5,K5,D5⟩
theorem wok1 (hM:Zi 137 w a b s) (hk:w.heap[k]? =some (.cells #[.int .i64 p0,.int .i64 p1,.int .i64 p2,.int .i64 p3,.int .i64 p4,.int .i64 p5,.int .i64 c,.int .u64 u0,.int .u64 u1,.int .u64 u2,.int .i64 1] 247 (0,0))) (h0:0<=c) (h1:c < 256) (h2:0<=p4) (h3:p4<=4096) (he:s.acc (p4+3 * c)=0):
  Calls Tryz.prog 116 #[.pointer (some ⟨k,0,none⟩),.pointer (some ⟨a,0,none⟩)] w λ e w'=>e=.returned (.tuple #[.bool false,.int .i64 0])/\Zi 137 w' a b (s.store (p4+3 * c) u1)/\w'.heap[k]? =some (.cells #[.int .i64 p0,.int .i64 p1,.int .i64 p2,.int .i64 p3,.int .i64 p4,.int .i64 p5,.int .i64 c,.int .u64 u0,.int .u64 u1,.int .u64 u2,.int .i64 2] 247 (0,0))/\Ze [a,b,k] w w':=by
 have He:=Zh_ he;clear he;have hx:Va p4 c 0=p4+3 * c:=by unfold Va;rw [if_pos (Xi h0 h1 h2 h3)];omega
 have Hx:=Zh_ hx;have Hp:=Zh_ (Xi h0 h1 h2 h3);clear hx;have hka:k≠a:=Zp hk hM.hd (by decide);have hkb:k≠b:=Zp hk hM.ws (by decide);obtain ⟨r0,r1,r2,r3,r4,r5,r6⟩:=Zc7e_ hk;have r10:w.cell? ⟨k,10,none⟩=some (.int .i64 1):=Za hk rfl;have hix:∀ wx:World,(Instr.index 248 (.agg #[.int .i64 2,.int .i64 0,.int .i64 1]) (.int .i64 1)).run Tryz.prog wx=.ok (.int .i64 0) wx:=λ _=>by kernel_rfl
 go_enter func116,ntmps116;go_upto_region 3 with fail
 go_cut [6,7] (λ A C wx=>A=.int .i64 (Va p4 c 0)/\C=.int .i64 (Yz p4 c)/\Zi 137 wx a b s/\wx.heap[k]? =some (.cells #[.int .i64 p0,.int .i64 p1,.int .i64 p2,.int .i64 p3,.int .i64 p4,.int .i64 p5,.int .i64 c,.int .u64 u0,.int .u64 u1,.int .u64 u2,.int .i64 1] 247 (0,0))/\Ze [a,b,k] w wx)
 case first=>
  go_region_held3 (λ wx=>wx.cell? ⟨k,0,none⟩=some (.int .i64 p0)/\wx.cell? ⟨k,1,none⟩=some (.int .i64 p1)/\wx.cell? ⟨k,2,none⟩=some (.int .i64 p2)/\wx.cell? ⟨k,3,none⟩=some (.int .i64 p3)/\wx.cell? ⟨k,4,none⟩=some (.int .i64 p4)/\wx.cell? ⟨k,5,none⟩=some (.int .i64 p5)/\wx.cell? ⟨k,6,none⟩=some (.int .i64 c)/\wx.cell? ⟨k,10,none⟩=some (.int .i64 1)) (first|exact ⟨r0,r1,r2,r3,r4,r5,r6,r10⟩|exact ⟨Za K2 rfl,Za K2 rfl,Za K2 rfl,Za K2 rfl,Za K2 rfl,Za K2 rfl,Za K2 rfl,Za K2 rfl⟩)
   (first|(go_at_call 59;refine (Vm p0 p1 p2 p3 p4 p5 c 0 (by omega) (by omega) _).mono ?_;rintro e w2 ⟨rfl,hw2⟩;have d2:Ze [] w.drew w2:=hw2 ▸ (Zr_ _ _).alloc _;clear hw2;have K2:=d2.at (k:=k) (o:=.cells #[.int .i64 p0,.int .i64 p1,.int .i64 p2,.int .i64 p3,.int .i64 p4,.int .i64 p5,.int .i64 c,.int .u64 u0,.int .u64 u1,.int .u64 u2,.int .i64 1] 247 (0,0)) hk (by simp)))
  all_goals
   go_wp2_with fail;go_meet;exact ⟨rfl,rfl,hM.drew.mod d2 (by simp) (by simp),K2,((Zr_ _ _).drew.trans d2).weak _⟩
 case rest=>
  obtain ⟨rfl,rfl,M3,K3,D3⟩:=hcut;clear r0 r1 r2 r3 r4 r5 r6 r10 hM hk;obtain ⟨w3,rfl⟩:∃ w3,w3=wc:=⟨_,rfl⟩;rw [Hx.out,Hp.out];have r8:w3.cell? ⟨k,8,none⟩=some (.int .u64 u1):=Za K3 rfl;have r10:w3.cell? ⟨k,10,none⟩=some (.int .i64 1):=Za K3 rfl;go_upto_region 5 with fail
  go_cut [7] (λ A wx=>A=.int .i64 (s.acc (p4+3 * c))/\Zi 137 wx a b (s.store (p4+3 * c) u1)/\wx.heap[k]? =some (.cells #[.int .i64 p0,.int .i64 p1,.int .i64 p2,.int .i64 p3,.int .i64 p4,.int .i64 p5,.int .i64 c,.int .u64 u0,.int .u64 u1,.int .u64 u2,.int .i64 1] 247 (0,0))/\Ze [a,b,k] w wx)
  case first=>
   go_region_held3 (λ wx=>wx.cell? ⟨k,8,none⟩=some (.int .u64 u1)/\wx.cell? ⟨k,10,none⟩=some (.int .i64 1)) (first|exact ⟨r8,r10⟩|exact ⟨Za K4 rfl,Za K4 rfl⟩)
    (first|(go_at_call 148;refine (Qx M3.drew (p4+3 * c) u1).mono ?_;rintro e w4 ⟨rfl,M4,d4⟩;have K4:=d4.at (k:=k) (o:=.cells #[.int .i64 p0,.int .i64 p1,.int .i64 p2,.int .i64 p3,.int .i64 p4,.int .i64 p5,.int .i64 c,.int .u64 u0,.int .u64 u1,.int .u64 u2,.int .i64 1] 247 (0,0)) K3 (by simp [hka,hkb])))
   all_goals
    go_wp2_with fail;go_meet;exact ⟨rfl,M4,K4,(D3.drew).trans (d4.mono (by simp))⟩
  case rest=>
   obtain ⟨rfl,M5,K5,D5⟩:=hcut;clear r8 r10 M3 K3 D3;obtain ⟨w5,rfl⟩:∃ w5,w5=wc:=⟨_,rfl⟩;rw [He.out];have r10:w5.cell? ⟨k,10,none⟩=some (.int .i64 1):=Za K5 rfl;have z10:=Zb (i:=10) K5;go_upto_region 9 with fail;have K6:=Zd (i:=10) (.int .i64 2) K5;simp only [List.setIfInBounds_toArray,List.set_cons_succ,List.set_cons_zero] at K6;have M6:=M5.other k 10 (.int .i64 2) (Ne.symm hka) (Ne.symm hkb);have D6:=D5.setCell ⟨k,10,none⟩ (.int .i64 2) (.inl (by simp));clear r10 z10 K5 M5 D5;generalize w5.setCell ⟨k,10,none⟩ (.int .i64 2)=w6 at *
   have r10:w6.cell? ⟨k,10,none⟩=some (.int .i64 2):=Za K6 rfl;go_wp2;go_ret2;exact ⟨rfl,M6,K6,D6⟩
theorem wbadP2 (hM:Zi 137 w a b s) (hk:w.heap[k]? =some (.cells #[.int .i64 p0,.int .i64 p1,.int .i64 p2,.int .i64 p3,.int .i64 p4,.int .i64 p5,.int .i64 c,.int .u64 u0,.int .u64 u1,.int .u64 u2,.int .i64 2] 247 (0,0))) (he:(Yz p4 c==0)=false) (he':(Yz p4 c !=0)=true):
  Calls Tryz.prog 116 #[.pointer (some ⟨k,0,none⟩),.pointer (some ⟨a,0,none⟩)] w λ e w'=>e=.returned (.tuple #[.bool false,.int .i64 (Yz p4 c)])/\Zi 137 w' a b s/\w'.heap[k]? =some (.cells #[.int .i64 p0,.int .i64 p1,.int .i64 p2,.int .i64 p3,.int .i64 p4,.int .i64 p5,.int .i64 c,.int .u64 u0,.int .u64 u1,.int .u64 u2,.int .i64 2] 247 (0,0))/\Ze [a,b,k] w w':=by
 have hka:k≠a:=Zp hk hM.hd (by decide);have hkb:k≠b:=Zp hk hM.ws (by decide);obtain ⟨r0,r1,r2,r3,r4,r5,r6⟩:=Zc7e_ hk;have r10:w.cell? ⟨k,10,none⟩=some (.int .i64 2):=Za hk rfl;have hix:∀ wx:World,(Instr.index 248 (.agg #[.int .i64 2,.int .i64 0,.int .i64 1]) (.int .i64 2)).run Tryz.prog wx=.ok (.int .i64 1) wx:=λ _=>by kernel_rfl
 go_enter func116,ntmps116;go_upto_region 3 with fail
 go_cut [6,7] (λ A C wx=>A=.int .i64 (Va p4 c 1)/\C=.int .i64 (Yz p4 c)/\Zi 137 wx a b s/\wx.heap[k]? =some (.cells #[.int .i64 p0,.int .i64 p1,.int .i64 p2,.int .i64 p3,.int .i64 p4,.int .i64 p5,.int .i64 c,.int .u64 u0,.int .u64 u1,.int .u64 u2,.int .i64 2] 247 (0,0))/\Ze [a,b,k] w wx)
 case first=>
  go_region_held3 (λ wx=>wx.cell? ⟨k,0,none⟩=some (.int .i64 p0)/\wx.cell? ⟨k,1,none⟩=some (.int .i64 p1)/\wx.cell? ⟨k,2,none⟩=some (.int .i64 p2)/\wx.cell? ⟨k,3,none⟩=some (.int .i64 p3)/\wx.cell? ⟨k,4,none⟩=some (.int .i64 p4)/\wx.cell? ⟨k,5,none⟩=some (.int .i64 p5)/\wx.cell? ⟨k,6,none⟩=some (.int .i64 c)/\wx.cell? ⟨k,10,none⟩=some (.int .i64 2)) (first|exact ⟨r0,r1,r2,r3,r4,r5,r6,r10⟩|exact ⟨Za K2 rfl,Za K2 rfl,Za K2 rfl,Za K2 rfl,Za K2 rfl,Za K2 rfl,Za K2 rfl,Za K2 rfl⟩)
   (first|(go_at_call 59;refine (Vm p0 p1 p2 p3 p4 p5 c 1 (by omega) (by omega) _).mono ?_;rintro e w2 ⟨rfl,hw2⟩;have d2:Ze [] w.drew w2:=hw2 ▸ (Zr_ _ _).alloc _;clear hw2;have K2:=d2.at (k:=k) (o:=.cells #[.int .i64 p0,.int .i64 p1,.int .i64 p2,.int .i64 p3,.int .i64 p4,.int .i64 p5,.int .i64 c,.int .u64 u0,.int .u64 u1,.int .u64 u2,.int .i64 2] 247 (0,0)) hk (by simp)))
  all_goals
   go_wp2_with fail;go_meet;exact ⟨rfl,rfl,hM.drew.mod d2 (by simp) (by simp),K2,((Zr_ _ _).drew.trans d2).weak _⟩
 case rest=>
  obtain ⟨rfl,rfl,M3,K3,D3⟩:=hcut;clear r0 r1 r2 r3 r4 r5 r6 r10 hM hk;obtain ⟨w3,rfl⟩:∃ w3,w3=wc:=⟨_,rfl⟩;go_wp2;go_ret2;exact ⟨rfl,M3,K3,D3⟩
theorem wbadS2 (hM:Zi 137 w a b s) (hk:w.heap[k]? =some (.cells #[.int .i64 p0,.int .i64 p1,.int .i64 p2,.int .i64 p3,.int .i64 p4,.int .i64 p5,.int .i64 c,.int .u64 u0,.int .u64 u1,.int .u64 u2,.int .i64 2] 247 (0,0))) (h0:0<=c) (h1:c < 256) (h2:0<=p4) (h3:p4<=4096) (he:(s.acc (p4+3 * c+1) !=0)=true):
  Calls Tryz.prog 116 #[.pointer (some ⟨k,0,none⟩),.pointer (some ⟨a,0,none⟩)] w λ e w'=>e=.returned (.tuple #[.bool false,.int .i64 (s.acc (p4+3 * c+1))])/\Zi 137 w' a b (s.store (p4+3 * c+1) u2)/\w'.heap[k]? =some (.cells #[.int .i64 p0,.int .i64 p1,.int .i64 p2,.int .i64 p3,.int .i64 p4,.int .i64 p5,.int .i64 c,.int .u64 u0,.int .u64 u1,.int .u64 u2,.int .i64 2] 247 (0,0))/\Ze [a,b,k] w w':=by
 have hx:Va p4 c 1=p4+3 * c+1:=by unfold Va;rw [if_pos (Xi h0 h1 h2 h3)]
 have Hx:=Zh_ hx;have Hp:=Zh_ (Xi h0 h1 h2 h3);clear hx;have hka:k≠a:=Zp hk hM.hd (by decide);have hkb:k≠b:=Zp hk hM.ws (by decide);obtain ⟨r0,r1,r2,r3,r4,r5,r6⟩:=Zc7e_ hk;have r10:w.cell? ⟨k,10,none⟩=some (.int .i64 2):=Za hk rfl;have hix:∀ wx:World,(Instr.index 248 (.agg #[.int .i64 2,.int .i64 0,.int .i64 1]) (.int .i64 2)).run Tryz.prog wx=.ok (.int .i64 1) wx:=λ _=>by kernel_rfl
 go_enter func116,ntmps116;go_upto_region 3 with fail
 go_cut [6,7] (λ A C wx=>A=.int .i64 (Va p4 c 1)/\C=.int .i64 (Yz p4 c)/\Zi 137 wx a b s/\wx.heap[k]? =some (.cells #[.int .i64 p0,.int .i64 p1,.int .i64 p2,.int .i64 p3,.int .i64 p4,.int .i64 p5,.int .i64 c,.int .u64 u0,.int .u64 u1,.int .u64 u2,.int .i64 2] 247 (0,0))/\Ze [a,b,k] w wx)
 case first=>
  go_region_held3 (λ wx=>wx.cell? ⟨k,0,none⟩=some (.int .i64 p0)/\wx.cell? ⟨k,1,none⟩=some (.int .i64 p1)/\wx.cell? ⟨k,2,none⟩=some (.int .i64 p2)/\wx.cell? ⟨k,3,none⟩=some (.int .i64 p3)/\wx.cell? ⟨k,4,none⟩=some (.int .i64 p4)/\wx.cell? ⟨k,5,none⟩=some (.int .i64 p5)/\wx.cell? ⟨k,6,none⟩=some (.int .i64 c)/\wx.cell? ⟨k,10,none⟩=some (.int .i64 2)) (first|exact ⟨r0,r1,r2,r3,r4,r5,r6,r10⟩|exact ⟨Za K2 rfl,Za K2 rfl,Za K2 rfl,Za K2 rfl,Za K2 rfl,Za K2 rfl,Za K2 rfl,Za K2 rfl⟩)
   (first|(go_at_call 59;refine (Vm p0 p1 p2 p3 p4 p5 c 1 (by omega) (by omega) _).mono ?_;rintro e w2 ⟨rfl,hw2⟩;have d2:Ze [] w.drew w2:=hw2 ▸ (Zr_ _ _).alloc _;clear hw2;have K2:=d2.at (k:=k) (o:=.cells #[.int .i64 p0,.int .i64 p1,.int .i64 p2,.int .i64 p3,.int .i64 p4,.int .i64 p5,.int .i64 c,.int .u64 u0,.int .u64 u1,.int .u64 u2,.int .i64 2] 247 (0,0)) hk (by simp)))
  all_goals
   go_wp2_with fail;go_meet;exact ⟨rfl,rfl,hM.drew.mod d2 (by simp) (by simp),K2,((Zr_ _ _).drew.trans d2).weak _⟩
 case rest=>
  obtain ⟨rfl,rfl,M3,K3,D3⟩:=hcut;clear r0 r1 r2 r3 r4 r5 r6 r10 hM hk;obtain ⟨w3,rfl⟩:∃ w3,w3=wc:=⟨_,rfl⟩;rw [Hx.out,Hp.out];have r9:w3.cell? ⟨k,9,none⟩=some (.int .u64 u2):=Za K3 rfl;have r10:w3.cell? ⟨k,10,none⟩=some (.int .i64 2):=Za K3 rfl;go_upto_region 5 with fail
  go_cut [7] (λ A wx=>A=.int .i64 (s.acc (p4+3 * c+1))/\Zi 137 wx a b (s.store (p4+3 * c+1) u2)/\wx.heap[k]? =some (.cells #[.int .i64 p0,.int .i64 p1,.int .i64 p2,.int .i64 p3,.int .i64 p4,.int .i64 p5,.int .i64 c,.int .u64 u0,.int .u64 u1,.int .u64 u2,.int .i64 2] 247 (0,0))/\Ze [a,b,k] w wx)
  case first=>
   go_region_held3 (λ wx=>wx.cell? ⟨k,9,none⟩=some (.int .u64 u2)/\wx.cell? ⟨k,10,none⟩=some (.int .i64 2)) (first|exact ⟨r9,r10⟩|exact ⟨Za K4 rfl,Za K4 rfl⟩)
    (first|(go_at_call 148;refine (Qx M3.drew (p4+3 * c+1) u2).mono ?_;rintro e w4 ⟨rfl,M4,d4⟩;have K4:=d4.at (k:=k) (o:=.cells #[.int .i64 p0,.int .i64 p1,.int .i64 p2,.int .i64 p3,.int .i64 p4,.int .i64 p5,.int .i64 c,.int .u64 u0,.int .u64 u1,.int .u64 u2,.int .i64 2] 247 (0,0)) K3 (by simp [hka,hkb])))
   all_goals
    go_wp2_with fail;go_meet;exact ⟨rfl,M4,K4,(D3.drew).trans (d4.mono (by simp))⟩
  case rest=>
   obtain ⟨rfl,M5,K5,D5⟩:=hcut;clear r9 r10 M3 K3 D3;obtain ⟨w5,rfl⟩:∃ w5,w5=wc:=⟨_,rfl⟩;go_wp2;go_ret2;exact ⟨rfl,M5,K5,D5⟩
theorem wok2 (hM:Zi 137 w a b s) (hk:w.heap[k]? =some (.cells #[.int .i64 p0,.int .i64 p1,.int .i64 p2,.int .i64 p3,.int .i64 p4,.int .i64 p5,.int .i64 c,.int .u64 u0,.int .u64 u1,.int .u64 u2,.int .i64 2] 247 (0,0))) (h0:0<=c) (h1:c < 256) (h2:0<=p4) (h3:p4<=4096) (he:s.acc (p4+3 * c+1)=0):
  Calls Tryz.prog 116 #[.pointer (some ⟨k,0,none⟩),.pointer (some ⟨a,0,none⟩)] w λ e w'=>e=.returned (.tuple #[.bool true,.int .i64 0])/\Zi 137 w' a b (s.store (p4+3 * c+1) u2)/\w'.heap[k]? =some (.cells #[.int .i64 p0,.int .i64 p1,.int .i64 p2,.int .i64 p3,.int .i64 p4,.int .i64 p5,.int .i64 c,.int .u64 u0,.int .u64 u1,.int .u64 u2,.int .i64 3] 247 (0,0))/\Ze [a,b,k] w w':=by
 have He:=Zh_ he;clear he;have hx:Va p4 c 1=p4+3 * c+1:=by unfold Va;rw [if_pos (Xi h0 h1 h2 h3)]
 have Hx:=Zh_ hx;have Hp:=Zh_ (Xi h0 h1 h2 h3);clear hx;have hka:k≠a:=Zp hk hM.hd (by decide);have hkb:k≠b:=Zp hk hM.ws (by decide);obtain ⟨r0,r1,r2,r3,r4,r5,r6⟩:=Zc7e_ hk;have r10:w.cell? ⟨k,10,none⟩=some (.int .i64 2):=Za hk rfl;have hix:∀ wx:World,(Instr.index 248 (.agg #[.int .i64 2,.int .i64 0,.int .i64 1]) (.int .i64 2)).run Tryz.prog wx=.ok (.int .i64 1) wx:=λ _=>by kernel_rfl
 go_enter func116,ntmps116;go_upto_region 3 with fail
 go_cut [6,7] (λ A C wx=>A=.int .i64 (Va p4 c 1)/\C=.int .i64 (Yz p4 c)/\Zi 137 wx a b s/\wx.heap[k]? =some (.cells #[.int .i64 p0,.int .i64 p1,.int .i64 p2,.int .i64 p3,.int .i64 p4,.int .i64 p5,.int .i64 c,.int .u64 u0,.int .u64 u1,.int .u64 u2,.int .i64 2] 247 (0,0))/\Ze [a,b,k] w wx)
 case first=>
  go_region_held3 (λ wx=>wx.cell? ⟨k,0,none⟩=some (.int .i64 p0)/\wx.cell? ⟨k,1,none⟩=some (.int .i64 p1)/\wx.cell? ⟨k,2,none⟩=some (.int .i64 p2)/\wx.cell? ⟨k,3,none⟩=some (.int .i64 p3)/\wx.cell? ⟨k,4,none⟩=some (.int .i64 p4)/\wx.cell? ⟨k,5,none⟩=some (.int .i64 p5)/\wx.cell? ⟨k,6,none⟩=some (.int .i64 c)/\wx.cell? ⟨k,10,none⟩=some (.int .i64 2)) (first|exact ⟨r0,r1,r2,r3,r4,r5,r6,r10⟩|exact ⟨Za K2 rfl,Za K2 rfl,Za K2 rfl,Za K2 rfl,Za K2 rfl,Za K2 rfl,Za K2 rfl,Za K2 rfl⟩)
   (first|(go_at_call 59;refine (Vm p0 p1 p2 p3 p4 p5 c 1 (by omega) (by omega) _).mono ?_;rintro e w2 ⟨rfl,hw2⟩;have d2:Ze [] w.drew w2:=hw2 ▸ (Zr_ _ _).alloc _;clear hw2;have K2:=d2.at (k:=k) (o:=.cells #[.int .i64 p0,.int .i64 p1,.int .i64 p2,.int .i64 p3,.int .i64 p4,.int .i64 p5,.int .i64 c,.int .u64 u0,.int .u64 u1,.int .u64 u2,.int .i64 2] 247 (0,0)) hk (by simp)))
  all_goals
   go_wp2_with fail;go_meet;exact ⟨rfl,rfl,hM.drew.mod d2 (by simp) (by simp),K2,((Zr_ _ _).drew.trans d2).weak _⟩
 case rest=>
  obtain ⟨rfl,rfl,M3,K3,D3⟩:=hcut;clear r0 r1 r2 r3 r4 r5 r6 r10 hM hk;obtain ⟨w3,rfl⟩:∃ w3,w3=wc:=⟨_,rfl⟩;rw [Hx.out,Hp.out];have r9:w3.cell? ⟨k,9,none⟩=some (.int .u64 u2):=Za K3 rfl;have r10:w3.cell? ⟨k,10,none⟩=some (.int .i64 2):=Za K3 rfl;go_upto_region 5 with fail
  go_cut [7] (λ A wx=>A=.int .i64 (s.acc (p4+3 * c+1))/\Zi 137 wx a b (s.store (p4+3 * c+1) u2)/\wx.heap[k]? =some (.cells #[.int .i64 p0,.int .i64 p1,.int .i64 p2,.int .i64 p3,.int .i64 p4,.int .i64 p5,.int .i64 c,.int .u64 u0,.int .u64 u1,.int .u64 u2,.int .i64 2] 247 (0,0))/\Ze [a,b,k] w wx)
  case first=>
   go_region_held3 (λ wx=>wx.cell? ⟨k,9,none⟩=some (.int .u64 u2)/\wx.cell? ⟨k,10,none⟩=some (.int .i64 2)) (first|exact ⟨r9,r10⟩|exact ⟨Za K4 rfl,Za K4 rfl⟩)
    (first|(go_at_call 148;refine (Qx M3.drew (p4+3 * c+1) u2).mono ?_;rintro e w4 ⟨rfl,M4,d4⟩;have K4:=d4.at (k:=k) (o:=.cells #[.int .i64 p0,.int .i64 p1,.int .i64 p2,.int .i64 p3,.int .i64 p4,.int .i64 p5,.int .i64 c,.int .u64 u0,.int .u64 u1,.int .u64 u2,.int .i64 2] 247 (0,0)) K3 (by simp [hka,hkb])))
   all_goals
    go_wp2_with fail;go_meet;exact ⟨rfl,M4,K4,(D3.drew).trans (d4.mono (by simp))⟩
  case rest=>
   obtain ⟨rfl,M5,K5,D5⟩:=hcut;clear r9 r10 M3 K3 D3;obtain ⟨w5,rfl⟩:∃ w5,w5=wc:=⟨_,rfl⟩;rw [He.out];have r10:w5.cell? ⟨k,10,none⟩=some (.int .i64 2):=Za K5 rfl;have z10:=Zb (i:=10) K5;go_upto_region 9 with fail;have K6:=Zd (i:=10) (.int .i64 3) K5;simp only [List.setIfInBounds_toArray,List.set_cons_succ,List.set_cons_zero] at K6;have M6:=M5.other k 10 (.int .i64 3) (Ne.symm hka) (Ne.symm hkb);have D6:=D5.setCell ⟨k,10,none⟩ (.int .i64 3) (.inl (by simp));clear r10 z10 K5 M5 D5;generalize w5.setCell ⟨k,10,none⟩ (.int .i64 3)=w6 at *
   have r10:w6.cell? ⟨k,10,none⟩=some (.int .i64 3):=Za K6 rfl;go_wp2;go_ret2;exact ⟨rfl,M6,K6,D6⟩
end
section
attribute [local go_sem] Zj
variable {a b k:Nat} {s:Zh} {w:World}
structure Xu.Inv (r:Xu):Prop where
 lo:0<=r.n
 hi:r.n<=3
theorem Gl {p4 c k:Int} (h:Yz p4 c=0):s.cellE p4 c k=s.acc (p4+3 * c+k):=if_pos h
theorem Gk {p4 c k v:Int} (h:Yz p4 c=0):s.cellS p4 c k v=s.store (p4+3 * c+k) v:=if_pos h
theorem Fi {p4 c k:Int} (h:Yz p4 c≠0):s.cellE p4 c k=Yz p4 c:=if_neg h
theorem Fh {p4 c k v:Int} (h:Yz p4 c≠0):s.cellS p4 c k v=s:=if_neg h
theorem Rc (hM:Zi 137 w a b s) (r:Xu) (hi:r.Inv) (hk:w.heap[k]? =some (.cells r.arr 247 (0,0))):
  Calls Tryz.prog 116 #[.pointer (some ⟨k,0,none⟩),.pointer (some ⟨a,0,none⟩)] w λ e w'=>e=.returned (.tuple #[.bool (r.over s),.int .i64 (r.err s)])/\Zi 137 w' a b (r.mem s)/\w'.heap[k]? =some (.cells (r.next s).arr 247 (0,0))/\Ze [a,b,k] w w':=by
 obtain ⟨p0,p1,p2,p3,p4,p5,c,u0,u1,u2,n⟩:=r;obtain ⟨hlo,hhi⟩:=hi;dsimp only at hlo hhi;have hp:n=0\/n=1\/n=2\/n=3:=by omega
 rcases hp with rfl|rfl|rfl|rfl
 ·have e1:(Xu.mk p0 p1 p2 p3 p4 p5 c u0 u1 u2 0).err s=s.cellE p4 c 2:=rfl;have e4:(Xu.mk p0 p1 p2 p3 p4 p5 c u0 u1 u2 0).mem s=s.cellS p4 c 2 u0:=rfl
  by_cases hx:Yz p4 c=0
  ·obtain ⟨h0,h1,h2,h3⟩:=Ve hx;have e5:s.cellE p4 c 2=s.acc (p4+3 * c+2):=by rw [Gl hx]
   have e6:s.cellS p4 c 2 u0=s.store (p4+3 * c+2) u0:=by rw [Gk hx]
   rw [e5] at e1;rw [e6] at e4
   by_cases he:s.acc (p4+3 * c+2)=0
   ·have e2:(Xu.mk p0 p1 p2 p3 p4 p5 c u0 u1 u2 0).next s=(Xu.mk p0 p1 p2 p3 p4 p5 c u0 u1 u2 1):=by unfold Xu.next;rw [e1,if_pos he];rfl
    have e3:(Xu.mk p0 p1 p2 p3 p4 p5 c u0 u1 u2 0).over s=false:=by unfold Xu.over;rw [e1,if_pos he];rfl
    rw [e1,e2,e3,e4,he];exact wok0 hM hk h0 h1 h2 h3 he
   ·have e2:(Xu.mk p0 p1 p2 p3 p4 p5 c u0 u1 u2 0).next s=(Xu.mk p0 p1 p2 p3 p4 p5 c u0 u1 u2 0):=by unfold Xu.next;rw [e1,if_neg he]
    have e3:(Xu.mk p0 p1 p2 p3 p4 p5 c u0 u1 u2 0).over s=false:=by unfold Xu.over;rw [e1,if_neg he]
    rw [e1,e2,e3,e4];exact wbadS0 hM hk h0 h1 h2 h3 (by simp [he])
  ·rw [Fi hx] at e1;rw [Fh hx] at e4;have e2:(Xu.mk p0 p1 p2 p3 p4 p5 c u0 u1 u2 0).next s=(Xu.mk p0 p1 p2 p3 p4 p5 c u0 u1 u2 0):=by unfold Xu.next;rw [e1,if_neg hx]
   have e3:(Xu.mk p0 p1 p2 p3 p4 p5 c u0 u1 u2 0).over s=false:=by unfold Xu.over;rw [e1,if_neg hx]
   rw [e1,e2,e3,e4];exact wbadP0 hM hk (by simp [hx]) (by simp [hx])
 ·have e1:(Xu.mk p0 p1 p2 p3 p4 p5 c u0 u1 u2 1).err s=s.cellE p4 c 0:=rfl;have e4:(Xu.mk p0 p1 p2 p3 p4 p5 c u0 u1 u2 1).mem s=s.cellS p4 c 0 u1:=rfl
  by_cases hx:Yz p4 c=0
  ·obtain ⟨h0,h1,h2,h3⟩:=Ve hx;have e5:s.cellE p4 c 0=s.acc (p4+3 * c):=by rw [Gl hx];rw [Int.add_zero]
   have e6:s.cellS p4 c 0 u1=s.store (p4+3 * c) u1:=by rw [Gk hx];rw [Int.add_zero]
   rw [e5] at e1;rw [e6] at e4
   by_cases he:s.acc (p4+3 * c)=0
   ·have e2:(Xu.mk p0 p1 p2 p3 p4 p5 c u0 u1 u2 1).next s=(Xu.mk p0 p1 p2 p3 p4 p5 c u0 u1 u2 2):=by unfold Xu.next;rw [e1,if_pos he];rfl
    have e3:(Xu.mk p0 p1 p2 p3 p4 p5 c u0 u1 u2 1).over s=false:=by unfold Xu.over;rw [e1,if_pos he];rfl
    rw [e1,e2,e3,e4,he];exact wok1 hM hk h0 h1 h2 h3 he
   ·have e2:(Xu.mk p0 p1 p2 p3 p4 p5 c u0 u1 u2 1).next s=(Xu.mk p0 p1 p2 p3 p4 p5 c u0 u1 u2 1):=by unfold Xu.next;rw [e1,if_neg he]
    have e3:(Xu.mk p0 p1 p2 p3 p4 p5 c u0 u1 u2 1).over s=false:=by unfold Xu.over;rw [e1,if_neg he]
    rw [e1,e2,e3,e4];exact wbadS1 hM hk h0 h1 h2 h3 (by simp [he])
  ·rw [Fi hx] at e1;rw [Fh hx] at e4;have e2:(Xu.mk p0 p1 p2 p3 p4 p5 c u0 u1 u2 1).next s=(Xu.mk p0 p1 p2 p3 p4 p5 c u0 u1 u2 1):=by unfold Xu.next;rw [e1,if_neg hx]
   have e3:(Xu.mk p0 p1 p2 p3 p4 p5 c u0 u1 u2 1).over s=false:=by unfold Xu.over;rw [e1,if_neg hx]
   rw [e1,e2,e3,e4];exact wbadP1 hM hk (by simp [hx]) (by simp [hx])
 ·have e1:(Xu.mk p0 p1 p2 p3 p4 p5 c u0 u1 u2 2).err s=s.cellE p4 c 1:=rfl;have e4:(Xu.mk p0 p1 p2 p3 p4 p5 c u0 u1 u2 2).mem s=s.cellS p4 c 1 u2:=rfl
  by_cases hx:Yz p4 c=0
  ·obtain ⟨h0,h1,h2,h3⟩:=Ve hx;have e5:s.cellE p4 c 1=s.acc (p4+3 * c+1):=by rw [Gl hx]
   have e6:s.cellS p4 c 1 u2=s.store (p4+3 * c+1) u2:=by rw [Gk hx]
   rw [e5] at e1;rw [e6] at e4
   by_cases he:s.acc (p4+3 * c+1)=0
   ·have e2:(Xu.mk p0 p1 p2 p3 p4 p5 c u0 u1 u2 2).next s=(Xu.mk p0 p1 p2 p3 p4 p5 c u0 u1 u2 3):=by unfold Xu.next;rw [e1,if_pos he];rfl
    have e3:(Xu.mk p0 p1 p2 p3 p4 p5 c u0 u1 u2 2).over s=true:=by unfold Xu.over;rw [e1,if_pos he];rfl
    rw [e1,e2,e3,e4,he];exact wok2 hM hk h0 h1 h2 h3 he
   ·have e2:(Xu.mk p0 p1 p2 p3 p4 p5 c u0 u1 u2 2).next s=(Xu.mk p0 p1 p2 p3 p4 p5 c u0 u1 u2 2):=by unfold Xu.next;rw [e1,if_neg he]
    have e3:(Xu.mk p0 p1 p2 p3 p4 p5 c u0 u1 u2 2).over s=false:=by unfold Xu.over;rw [e1,if_neg he]
    rw [e1,e2,e3,e4];exact wbadS2 hM hk h0 h1 h2 h3 (by simp [he])
  ·rw [Fi hx] at e1;rw [Fh hx] at e4;have e2:(Xu.mk p0 p1 p2 p3 p4 p5 c u0 u1 u2 2).next s=(Xu.mk p0 p1 p2 p3 p4 p5 c u0 u1 u2 2):=by unfold Xu.next;rw [e1,if_neg hx]
   have e3:(Xu.mk p0 p1 p2 p3 p4 p5 c u0 u1 u2 2).over s=false:=by unfold Xu.over;rw [e1,if_neg hx]
   rw [e1,e2,e3,e4];exact wbadP2 hM hk (by simp [hx]) (by simp [hx])
 ·have e1:(Xu.mk p0 p1 p2 p3 p4 p5 c u0 u1 u2 3).err s=3:=rfl;have e2:(Xu.mk p0 p1 p2 p3 p4 p5 c u0 u1 u2 3).next s=(Xu.mk p0 p1 p2 p3 p4 p5 c u0 u1 u2 3):=by unfold Xu.next;rw [e1,if_neg (by decide)]
  have e3:(Xu.mk p0 p1 p2 p3 p4 p5 c u0 u1 u2 3).over s=false:=by unfold Xu.over;rw [e1,if_neg (by decide)]
  have e4:(Xu.mk p0 p1 p2 p3 p4 p5 c u0 u1 u2 3).mem s=s:=rfl;rw [e1,e2,e3,e4];exact (wstep3 hk).mono λ e w' ⟨he,hw⟩=>⟨he,hw ▸ hM,hw ▸ hk,hw ▸ Zr_ _ _⟩
def atB (v n u st:Int):Nat:=if st < v then Zt u.toNat else Zt n.toNat
theorem at11_c (v n u st:Int) (w:World):Calls Tryz.prog 34 #[.agg #[.int .u64 v,.int .u64 n,.int .u64 u],.int .u64 st] w λ e w'=>e=.returned (.float .f64 (atB v n u st))/\w'=w.alloc (.cells #[.int .u64 v,.int .u64 n,.int .u64 u] 101):=by
 by_cases h:st < v
 ·have hv:atB v n u st=Zt u.toNat:=if_pos h;rw [hv];clear hv;go_enter func34,ntmps34;go_wp2_with fail;refine (of_c u _).mono ?_;rintro e w1 ⟨rfl,rfl⟩;go_wp2;go_ret;exact ⟨rfl,rfl⟩
 ·have hv:atB v n u st=Zt n.toNat:=if_neg h;have h':v<=st:=Int.not_lt.1 h;rw [hv];clear hv h;go_enter func34,ntmps34;go_wp2_with fail;refine (of_c n _).mono ?_;rintro e w1 ⟨rfl,rfl⟩;go_wp2;go_ret;exact ⟨rfl,rfl⟩
end
end Go.Proofs.YtkhonmhnchdpkaaGreat
