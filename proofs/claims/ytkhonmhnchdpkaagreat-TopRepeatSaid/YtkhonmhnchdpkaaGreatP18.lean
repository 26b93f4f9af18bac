/- A part of the proof; no condition. -/
import Derived.Test.YtkhonmhnchdpkaaGreatP17
import Derived.WalkMore
import Derived.ScopeJumps
set_option maxRecDepth 100000
set_option maxHeartbeats 40000000
namespace Go.Proofs.YtkhonmhnchdpkaaGreat
open Go.RowKit _root_.Go.Proofs.Tryz
section
theorem scanA1_c {a b k:Nat} {s:Zh} {w:World} (hM:Zi 137 w a b s) (p0 p1 p2 p3 p4 p5 T nd nx po:Int) (hk:w.heap[k]? =some (.cells #[.int .i64 p0,.int .i64 p1,.int .i64 p2,.int .i64 p3,.int .i64 p4,.int .i64 p5,.int .i64 T,.int .u64 nd,.int .i64 nx,.int .i64 po] 243 (0,0))) (h:T < 1):
  Calls Tryz.prog 113 #[.pointer (some ⟨k,0,none⟩),.pointer (some ⟨a,0,none⟩)] w λ e w'=>e=.returned (.tuple #[.bool false,.int .i64 100])/\Zi 137 w' a b (s)/\w'.heap[k]? =some (.cells #[.int .i64 p0,.int .i64 p1,.int .i64 p2,.int .i64 p3,.int .i64 p4,.int .i64 p5,.int .i64 T,.int .u64 nd,.int .i64 nx,.int .i64 po] 243 (0,0))/\Ze [a,b,k] w w':=by
 have ha:=hM.lta;have hb:=hM.ltb;have hkl:=lt_of_block hk;have hka:k≠a:=Zp hk hM.hd (by decide);have hkb:k≠b:=Zp hk hM.ws (by decide);obtain ⟨x0,x1,x2,x3,x4,x5,x6,x7,x8,x9⟩:=Zc10a_ hk;have xf8:=Zb (i:=8) hk;have xf9:=Zb (i:=9) hk;go_enter func113,ntmps113;go_wp2
 go_step3
 go_wp2;rw [Exit.noGoto_ret];go_ret2;exact ⟨rfl,hM,hk,Zr_ _ _⟩
theorem scanA2_c {a b k:Nat} {s:Zh} {w:World} (hM:Zi 137 w a b s) (p0 p1 p2 p3 p4 p5 T nd nx po:Int) (hk:w.heap[k]? =some (.cells #[.int .i64 p0,.int .i64 p1,.int .i64 p2,.int .i64 p3,.int .i64 p4,.int .i64 p5,.int .i64 T,.int .u64 nd,.int .i64 nx,.int .i64 po] 243 (0,0))) (h1:1<=T) (h:8 < T):
  Calls Tryz.prog 113 #[.pointer (some ⟨k,0,none⟩),.pointer (some ⟨a,0,none⟩)] w λ e w'=>e=.returned (.tuple #[.bool false,.int .i64 100])/\Zi 137 w' a b (s)/\w'.heap[k]? =some (.cells #[.int .i64 p0,.int .i64 p1,.int .i64 p2,.int .i64 p3,.int .i64 p4,.int .i64 p5,.int .i64 T,.int .u64 nd,.int .i64 nx,.int .i64 po] 243 (0,0))/\Ze [a,b,k] w w':=by
 have ha:=hM.lta;have hb:=hM.ltb;have hkl:=lt_of_block hk;have hka:k≠a:=Zp hk hM.hd (by decide);have hkb:k≠b:=Zp hk hM.ws (by decide);obtain ⟨x0,x1,x2,x3,x4,x5,x6,x7,x8,x9⟩:=Zc10a_ hk;have xf8:=Zb (i:=8) hk;have xf9:=Zb (i:=9) hk;go_enter func113,ntmps113;go_wp2
 go_step3
 go_wp2;rw [Exit.noGoto_ret];go_ret2;exact ⟨rfl,hM,hk,Zr_ _ _⟩
theorem scanB_c {a b k:Nat} {s:Zh} {w:World} (hM:Zi 137 w a b s) (p0 p1 p2 p3 p4 p5 T nd po:Int) (hk:w.heap[k]? =some (.cells #[.int .i64 p0,.int .i64 p1,.int .i64 p2,.int .i64 p3,.int .i64 p4,.int .i64 p5,.int .i64 T,.int .u64 nd,.int .i64 T,.int .i64 po] 243 (0,0))) (h1:1<=T) (h8:T<=8):
  Calls Tryz.prog 113 #[.pointer (some ⟨k,0,none⟩),.pointer (some ⟨a,0,none⟩)] w λ e w'=>e=.returned (.tuple #[.bool false,.int .i64 3])/\Zi 137 w' a b (s)/\w'.heap[k]? =some (.cells #[.int .i64 p0,.int .i64 p1,.int .i64 p2,.int .i64 p3,.int .i64 p4,.int .i64 p5,.int .i64 T,.int .u64 nd,.int .i64 T,.int .i64 po] 243 (0,0))/\Ze [a,b,k] w w':=by
 have ha:=hM.lta;have hb:=hM.ltb;have hkl:=lt_of_block hk;have hka:k≠a:=Zp hk hM.hd (by decide);have hkb:k≠b:=Zp hk hM.ws (by decide);obtain ⟨x0,x1,x2,x3,x4,x5,x6,x7,x8,x9⟩:=Zc10a_ hk;have xf8:=Zb (i:=8) hk;have xf9:=Zb (i:=9) hk;go_enter func113,ntmps113;go_wp2
 go_step3
 go_wp2
 go_step3
 go_wp2
 go_loopw [6] (λ _ wr=>Zi 137 wr a b s/\wr.heap[k]? =some (.cells #[.int .i64 p0,.int .i64 p1,.int .i64 p2,.int .i64 p3,.int .i64 p4,.int .i64 p5,.int .i64 T,.int .u64 nd,.int .i64 T,.int .i64 po] 243 (0,0))/\Ze [] w wr) (λ _ _=>0)
 case atStart=>exact ⟨hM,hk,Zr_ _ _⟩
 case round=>
  obtain ⟨M1,K1,D1⟩:=hrel;clear x0 x1 x2 x3 x4 x5 x6 x7 x8 x9 xf8 xf9;have ha1:=M1.lta;have hb1:=M1.ltb;have hk1:=lt_of_block K1;obtain ⟨y0,y1,y2,y3,y4,y5,y6,y7,y8,y9⟩:=Zc10a_ K1;have yf8:=Zb (i:=8) K1;have yf9:=Zb (i:=9) K1;go_wp2_with fail;go_quiet (fail);go_wp2;go_quiet (fail);go_wp2;rw [Exit.noGoto_ret];go_ret2;exact ⟨rfl,by repeat (first|exact M1|refine Zi.drewN ?_ _|refine Zi.drew ?_),K1,(D1.weak _).trans (by repeat (first|with_reducible exact Zr_ _ _|with_reducible assumption|with_reducible refine Ze.drew ?_|with_reducible refine Ze.drewN ?_ _|with_reducible refine Ze.alloc ?_ _|with_reducible refine Ze.setCell ?_ _ _ (.inl (by simp))))⟩
theorem scanC_c {a b k:Nat} {s:Zh} {w:World} (hM:Zi 137 w a b s) (p0 p1 p2 p3 p4 p5 T nd nx po:Int) (hk:w.heap[k]? =some (.cells #[.int .i64 p0,.int .i64 p1,.int .i64 p2,.int .i64 p3,.int .i64 p4,.int .i64 p5,.int .i64 T,.int .u64 nd,.int .i64 nx,.int .i64 po] 243 (0,0))) (h1:1<=T) (h8:T<=8)(hn:nx < T) (he:Yw p3 nx=30):
  Calls Tryz.prog 113 #[.pointer (some ⟨k,0,none⟩),.pointer (some ⟨a,0,none⟩)] w λ e w'=>e=.returned (.tuple #[.bool false,.int .i64 30])/\Zi 137 w' a b (s)/\w'.heap[k]? =some (.cells #[.int .i64 p0,.int .i64 p1,.int .i64 p2,.int .i64 p3,.int .i64 p4,.int .i64 p5,.int .i64 T,.int .u64 nd,.int .i64 nx,.int .i64 po] 243 (0,0))/\Ze [a,b,k] w w':=by
 have ha:=hM.lta;have hb:=hM.ltb;have hkl:=lt_of_block hk;have hka:k≠a:=Zp hk hM.hd (by decide);have hkb:k≠b:=Zp hk hM.ws (by decide);obtain ⟨x0,x1,x2,x3,x4,x5,x6,x7,x8,x9⟩:=Zc10a_ hk;have xf8:=Zb (i:=8) hk;have xf9:=Zb (i:=9) hk;have He:=Zh_ he;clear he;go_enter func113,ntmps113;go_wp2
 go_step3
 go_wp2
 go_step3
 go_wp2
 go_loopw [6] (λ _ wr=>Zi 137 wr a b s/\wr.heap[k]? =some (.cells #[.int .i64 p0,.int .i64 p1,.int .i64 p2,.int .i64 p3,.int .i64 p4,.int .i64 p5,.int .i64 T,.int .u64 nd,.int .i64 nx,.int .i64 po] 243 (0,0))/\Ze [] w wr) (λ _ _=>0)
 case atStart=>exact ⟨hM,hk,Zr_ _ _⟩
 case round=>
  obtain ⟨M1,K1,D1⟩:=hrel;clear x0 x1 x2 x3 x4 x5 x6 x7 x8 x9 xf8 xf9;have ha1:=M1.lta;have hb1:=M1.ltb;have hk1:=lt_of_block K1;obtain ⟨y0,y1,y2,y3,y4,y5,y6,y7,y8,y9⟩:=Zc10a_ K1;have yf8:=Zb (i:=8) K1;have yf9:=Zb (i:=9) K1;go_wp2_with fail;go_quiet (fail);go_upto_region 4 with fail;generalize hwq:wr.drewN _=wq;have M2:Zi 137 wq a b s:=hwq ▸ M1.drewN _;have K2:wq.heap[k]? =some (.cells #[.int .i64 p0,.int .i64 p1,.int .i64 p2,.int .i64 p3,.int .i64 p4,.int .i64 p5,.int .i64 T,.int .u64 nd,.int .i64 nx,.int .i64 po] 243 (0,0)):=hwq ▸ K1;have D2:Ze [] w wq:=hwq ▸ D1.drewN _;clear y0 y1 y2 y3 y4 y5 y6 y7 y8 y9 yf8 yf9 hwq M1 K1 D1;obtain ⟨v0,v1,v2,v3,v4,v5,v6,v7,v8,v9⟩:=Zc10a_ K2;have vf8:=Zb (i:=8) K2;have vf9:=Zb (i:=9) K2
  go_cut [6,7] (λ x y wx=>x=.int .i64 (Vh p3 nx)/\y=.int .i64 (Yw p3 nx)/\Zi 137 wx a b s/\wx.heap[k]? =some (.cells #[.int .i64 p0,.int .i64 p1,.int .i64 p2,.int .i64 p3,.int .i64 p4,.int .i64 p5,.int .i64 T,.int .u64 nd,.int .i64 nx,.int .i64 po] 243 (0,0))/\Ze [] w wx)
  case first=>
   go_region_with (go_at_call 146;refine (Qh _ _ _ _ _ _ _ _).mono ?_;rintro e w1 ⟨rfl,rfl⟩)
   all_goals
    go_wp2_with fail;go_meet;exact ⟨rfl,rfl,by repeat (first|exact M2|refine Zi.drew ?_|refine Zi.alloc ?_ _),Zf _ K2,(by repeat (first|with_reducible exact Zr_ _ _|with_reducible assumption|with_reducible refine Ze.drew ?_|with_reducible refine Ze.drewN ?_ _|with_reducible refine Ze.alloc ?_ _|with_reducible refine Ze.setCell ?_ _ _ (.inl (by simp))))⟩
  case rest=>
   obtain ⟨rfl,rfl,M3,K3,D3⟩:=hcut;clear v0 v1 v2 v3 v4 v5 v6 v7 v8 v9 vf8 vf9 M2 K2 D2;obtain ⟨z0,z1,z2,z3,z4,z5,z6,z7,z8,z9⟩:=Zc10a_ K3;have zf8:=Zb (i:=8) K3;have zf9:=Zb (i:=9) K3;rw [He.out];go_wp2;rw [Exit.noGoto_ret];go_ret2;exact ⟨rfl,M3,K3,D3.weak _⟩
theorem scanD_c {a b k:Nat} {s:Zh} {w:World} (hM:Zi 137 w a b s) (p0 p1 p2 p3 p4 p5 T nd nx po:Int) (hk:w.heap[k]? =some (.cells #[.int .i64 p0,.int .i64 p1,.int .i64 p2,.int .i64 p3,.int .i64 p4,.int .i64 p5,.int .i64 T,.int .u64 nd,.int .i64 nx,.int .i64 po] 243 (0,0))) (h1:1<=T) (h8:T<=8)(hn:nx < T) (he:Yw p3 nx=0) (h0:(s.acc (p3+nx) !=0)=true):
  Calls Tryz.prog 113 #[.pointer (some ⟨k,0,none⟩),.pointer (some ⟨a,0,none⟩)] w λ e w'=>e=.returned (.tuple #[.bool false,.int .i64 (s.acc (p3+nx))])/\Zi 137 w' a b (s.load (p3+nx))/\w'.heap[k]? =some (.cells #[.int .i64 p0,.int .i64 p1,.int .i64 p2,.int .i64 p3,.int .i64 p4,.int .i64 p5,.int .i64 T,.int .u64 nd,.int .i64 nx,.int .i64 po] 243 (0,0))/\Ze [a,b,k] w w':=by
 have ha:=hM.lta;have hb:=hM.ltb;have hkl:=lt_of_block hk;have hka:k≠a:=Zp hk hM.hd (by decide);have hkb:k≠b:=Zp hk hM.ws (by decide);obtain ⟨x0,x1,x2,x3,x4,x5,x6,x7,x8,x9⟩:=Zc10a_ hk;have xf8:=Zb (i:=8) hk;have xf9:=Zb (i:=9) hk;have hat:Vh p3 nx=p3+nx:=if_pos he;have Hat:=Zh_ hat;clear hat;have He:=Zh_ he;clear he;go_enter func113,ntmps113;go_wp2
 go_step3
 go_wp2
 go_step3
 go_wp2
 go_loopw [6] (λ _ wr=>Zi 137 wr a b s/\wr.heap[k]? =some (.cells #[.int .i64 p0,.int .i64 p1,.int .i64 p2,.int .i64 p3,.int .i64 p4,.int .i64 p5,.int .i64 T,.int .u64 nd,.int .i64 nx,.int .i64 po] 243 (0,0))/\Ze [] w wr) (λ _ _=>0)
 case atStart=>exact ⟨hM,hk,Zr_ _ _⟩
 case round=>
  obtain ⟨M1,K1,D1⟩:=hrel;clear x0 x1 x2 x3 x4 x5 x6 x7 x8 x9 xf8 xf9;have ha1:=M1.lta;have hb1:=M1.ltb;have hk1:=lt_of_block K1;obtain ⟨y0,y1,y2,y3,y4,y5,y6,y7,y8,y9⟩:=Zc10a_ K1;have yf8:=Zb (i:=8) K1;have yf9:=Zb (i:=9) K1;go_wp2_with fail;go_quiet (fail);go_upto_region 4 with fail;generalize hwq:wr.drewN _=wq;have M2:Zi 137 wq a b s:=hwq ▸ M1.drewN _;have K2:wq.heap[k]? =some (.cells #[.int .i64 p0,.int .i64 p1,.int .i64 p2,.int .i64 p3,.int .i64 p4,.int .i64 p5,.int .i64 T,.int .u64 nd,.int .i64 nx,.int .i64 po] 243 (0,0)):=hwq ▸ K1;have D2:Ze [] w wq:=hwq ▸ D1.drewN _;clear y0 y1 y2 y3 y4 y5 y6 y7 y8 y9 yf8 yf9 hwq M1 K1 D1;obtain ⟨v0,v1,v2,v3,v4,v5,v6,v7,v8,v9⟩:=Zc10a_ K2;have vf8:=Zb (i:=8) K2;have vf9:=Zb (i:=9) K2
  go_cut [6,7] (λ x y wx=>x=.int .i64 (Vh p3 nx)/\y=.int .i64 (Yw p3 nx)/\Zi 137 wx a b s/\wx.heap[k]? =some (.cells #[.int .i64 p0,.int .i64 p1,.int .i64 p2,.int .i64 p3,.int .i64 p4,.int .i64 p5,.int .i64 T,.int .u64 nd,.int .i64 nx,.int .i64 po] 243 (0,0))/\Ze [] w wx)
  case first=>
   go_region_with (go_at_call 146;refine (Qh _ _ _ _ _ _ _ _).mono ?_;rintro e w1 ⟨rfl,rfl⟩)
   all_goals
    go_wp2_with fail;go_meet;exact ⟨rfl,rfl,by repeat (first|exact M2|refine Zi.drew ?_|refine Zi.alloc ?_ _),Zf _ K2,(by repeat (first|with_reducible exact Zr_ _ _|with_reducible assumption|with_reducible refine Ze.drew ?_|with_reducible refine Ze.drewN ?_ _|with_reducible refine Ze.alloc ?_ _|with_reducible refine Ze.setCell ?_ _ _ (.inl (by simp))))⟩
  case rest=>
   obtain ⟨rfl,rfl,M3,K3,D3⟩:=hcut;clear v0 v1 v2 v3 v4 v5 v6 v7 v8 v9 vf8 vf9 M2 K2 D2;obtain ⟨z0,z1,z2,z3,z4,z5,z6,z7,z8,z9⟩:=Zc10a_ K3;have zf8:=Zb (i:=8) K3;have zf9:=Zb (i:=9) K3;rw [He.out,Hat.out];go_wp2_with fail;refine (Vz M3 _).mono ?_;rintro e w2 ⟨rfl,M4,d4⟩;have K4:=d4.at K3 (by have:=M3.lta;have:=M3.ltb;simp;omega);have HD:Hid (Ze [a,b,k] w w2):=(D3.weak _).then d4 (by simp)
   have HM:=Zh_ M4;clear z0 z1 z2 z3 z4 z5 z6 z7 z8 z9 zf8 zf9 D3 d4 M3 M4 K3;obtain ⟨u0,u1,u2,u3,u4,u5,u6,u7,u8,u9⟩:=Zc10a_ K4;have uf8:=Zb (i:=8) K4;have uf9:=Zb (i:=9) K4;go_wp2;rw [Exit.noGoto_ret];go_ret2;exact ⟨rfl,HM.out,K4,HD.out⟩
theorem scanE_c {a b k:Nat} {s:Zh} {w:World} (hM:Zi 137 w a b s) (p0 p1 p2 p3 p4 p5 T nd nx po:Int) (hk:w.heap[k]? =some (.cells #[.int .i64 p0,.int .i64 p1,.int .i64 p2,.int .i64 p3,.int .i64 p4,.int .i64 p5,.int .i64 T,.int .u64 nd,.int .i64 nx,.int .i64 po] 243 (0,0))) (h1:1<=T) (h8:T<=8)(hn:nx < T) (he:Yw p3 nx=0) (h0:s.acc (p3+nx)=0) (g0:(s.got (p3+nx) !=0)=true) (g1:s.got (p3+nx)<=nd) (hne:(nx==T)=false):
  Calls Tryz.prog 113 #[.pointer (some ⟨k,0,none⟩),.pointer (some ⟨a,0,none⟩)] w λ e w'=>e=.returned (.tuple #[.bool false,.int .i64 0])/\Zi 137 w' a b (s.load (p3+nx))/\w'.heap[k]? =some (.cells #[.int .i64 p0,.int .i64 p1,.int .i64 p2,.int .i64 p3,.int .i64 p4,.int .i64 p5,.int .i64 T,.int .u64 nd,.int .i64 nx,.int .i64 (wrap64 (po+1))] 243 (0,0))/\Ze [a,b,k] w w':=by
 have ha:=hM.lta;have hb:=hM.ltb;have hkl:=lt_of_block hk;have hka:k≠a:=Zp hk hM.hd (by decide);have hkb:k≠b:=Zp hk hM.ws (by decide);obtain ⟨x0,x1,x2,x3,x4,x5,x6,x7,x8,x9⟩:=Zc10a_ hk;have xf8:=Zb (i:=8) hk;have xf9:=Zb (i:=9) hk;have hat:Vh p3 nx=p3+nx:=if_pos he;have Hat:=Zh_ hat;clear hat;have He:=Zh_ he;clear he;go_enter func113,ntmps113;go_wp2
 go_step3
 go_wp2
 go_step3
 go_wp2
 go_loopw [6] (λ _ wr=>Zi 137 wr a b s/\wr.heap[k]? =some (.cells #[.int .i64 p0,.int .i64 p1,.int .i64 p2,.int .i64 p3,.int .i64 p4,.int .i64 p5,.int .i64 T,.int .u64 nd,.int .i64 nx,.int .i64 po] 243 (0,0))/\Ze [] w wr) (λ _ _=>0)
 case atStart=>exact ⟨hM,hk,Zr_ _ _⟩
 case round=>
  obtain ⟨M1,K1,D1⟩:=hrel;clear x0 x1 x2 x3 x4 x5 x6 x7 x8 x9 xf8 xf9;have ha1:=M1.lta;have hb1:=M1.ltb;have hk1:=lt_of_block K1;obtain ⟨y0,y1,y2,y3,y4,y5,y6,y7,y8,y9⟩:=Zc10a_ K1;have yf8:=Zb (i:=8) K1;have yf9:=Zb (i:=9) K1;go_wp2_with fail;go_quiet (fail);go_upto_region 4 with fail;generalize hwq:wr.drewN _=wq;have M2:Zi 137 wq a b s:=hwq ▸ M1.drewN _;have K2:wq.heap[k]? =some (.cells #[.int .i64 p0,.int .i64 p1,.int .i64 p2,.int .i64 p3,.int .i64 p4,.int .i64 p5,.int .i64 T,.int .u64 nd,.int .i64 nx,.int .i64 po] 243 (0,0)):=hwq ▸ K1;have D2:Ze [] w wq:=hwq ▸ D1.drewN _;clear y0 y1 y2 y3 y4 y5 y6 y7 y8 y9 yf8 yf9 hwq M1 K1 D1;obtain ⟨v0,v1,v2,v3,v4,v5,v6,v7,v8,v9⟩:=Zc10a_ K2;have vf8:=Zb (i:=8) K2;have vf9:=Zb (i:=9) K2
  go_cut [6,7] (λ x y wx=>x=.int .i64 (Vh p3 nx)/\y=.int .i64 (Yw p3 nx)/\Zi 137 wx a b s/\wx.heap[k]? =some (.cells #[.int .i64 p0,.int .i64 p1,.int .i64 p2,.int .i64 p3,.int .i64 p4,.int .i64 p5,.int .i64 T,.int .u64 nd,.int .i64 nx,.int .i64 po] 243 (0,0))/\Ze [] w wx)
  case first=>
   go_region_with (go_at_call 146;refine (Qh _ _ _ _ _ _ _ _).mono ?_;rintro e w1 ⟨rfl,rfl⟩)
   all_goals
    go_wp2_with fail;go_meet;exact ⟨rfl,rfl,by repeat (first|exact M2|refine Zi.drew ?_|refine Zi.alloc ?_ _),Zf _ K2,(by repeat (first|with_reducible exact Zr_ _ _|with_reducible assumption|with_reducible refine Ze.drew ?_|with_reducible refine Ze.drewN ?_ _|with_reducible refine Ze.alloc ?_ _|with_reducible refine Ze.setCell ?_ _ _ (.inl (by simp))))⟩
  case rest=>
   obtain ⟨rfl,rfl,M3,K3,D3⟩:=hcut;clear v0 v1 v2 v3 v4 v5 v6 v7 v8 v9 vf8 vf9 M2 K2 D2;obtain ⟨z0,z1,z2,z3,z4,z5,z6,z7,z8,z9⟩:=Zc10a_ K3;have zf8:=Zb (i:=8) K3;have zf9:=Zb (i:=9) K3;rw [He.out,Hat.out];go_wp2_with fail;refine (Vz M3 _).mono ?_;rintro e w2 ⟨rfl,M4,d4⟩;have K4:=d4.at K3 (by have:=M3.lta;have:=M3.ltb;simp;omega);have HD:Hid (Ze [a,b,k] w w2):=(D3.weak _).then d4 (by simp)
   have HM:=Zh_ M4;clear z0 z1 z2 z3 z4 z5 z6 z7 z8 z9 zf8 zf9 D3 d4 M3 M4 K3;obtain ⟨u0,u1,u2,u3,u4,u5,u6,u7,u8,u9⟩:=Zc10a_ K4;have uf8:=Zb (i:=8) K4;have uf9:=Zb (i:=9) K4;go_wp2_with fail;generalize hws:w2.setCell _ _=ws;have K5:ws.heap[k]? =some (.cells #[.int .i64 p0,.int .i64 p1,.int .i64 p2,.int .i64 p3,.int .i64 p4,.int .i64 p5,.int .i64 T,.int .u64 nd,.int .i64 nx,.int .i64 (wrap64 (po+1))] 243 (0,0)):=by rw [<-hws];exact Zd _ K4
   have M5:Hid (Zi 137 ws a b (s.load (p3+nx))):=by rw [<-hws];exact HM.out.other _ _ _ (Ne.symm hka) (Ne.symm hkb)
   have D5:Hid (Ze [a,b,k] w ws):=by rw [<-hws];exact HD.out.setCell _ _ (.inl (by simp))
   clear hws HM HD K4 u0 u1 u2 u3 u4 u5 u6 u7 u8 u9 uf8 uf9;obtain ⟨q0,q1,q2,q3,q4,q5,q6,q7,q8,q9⟩:=Zc10a_ K5;have qf8:=Zb (i:=8) K5;have qf9:=Zb (i:=9) K5;go_quiet (fail);go_wp2;rw [Exit.noGoto_ret];go_ret2;exact ⟨rfl,by have MM:=M5.out;repeat (first|exact MM|refine Zi.drewN ?_ _|refine Zi.drew ?_),K5,by have DD:=D5.out;repeat (first|exact DD|refine Ze.drewN ?_ _|refine Ze.drew ?_)⟩
theorem scanF1_c {a b k:Nat} {s:Zh} {w:World} (hM:Zi 137 w a b s) (p0 p1 p2 p3 p4 p5 T nd nx po:Int) (hk:w.heap[k]? =some (.cells #[.int .i64 p0,.int .i64 p1,.int .i64 p2,.int .i64 p3,.int .i64 p4,.int .i64 p5,.int .i64 T,.int .u64 nd,.int .i64 nx,.int .i64 po] 243 (0,0))) (h1:1<=T) (h8:T<=8)(hn0:0<=nx)(hn:nx < T) (he:Yw p3 nx=0) (h0:s.acc (p3+nx)=0) (g0:s.got (p3+nx)=0):
  Calls Tryz.prog 113 #[.pointer (some ⟨k,0,none⟩),.pointer (some ⟨a,0,none⟩)] w λ e w'=>e=.returned (.tuple #[.bool (nx+1==T),.int .i64 0])/\Zi 137 w' a b (s.load (p3+nx))/\w'.heap[k]? =some (.cells #[.int .i64 p0,.int .i64 p1,.int .i64 p2,.int .i64 p3,.int .i64 p4,.int .i64 p5,.int .i64 T,.int .u64 nd,.int .i64 (nx+1),.int .i64 po] 243 (0,0))/\Ze [a,b,k] w w':=by
 have ha:=hM.lta;have hb:=hM.ltb;have hkl:=lt_of_block hk;have hka:k≠a:=Zp hk hM.hd (by decide);have hkb:k≠b:=Zp hk hM.ws (by decide);obtain ⟨x0,x1,x2,x3,x4,x5,x6,x7,x8,x9⟩:=Zc10a_ hk;have xf8:=Zb (i:=8) hk;have xf9:=Zb (i:=9) hk;have hat:Vh p3 nx=p3+nx:=if_pos he;have Hat:=Zh_ hat;clear hat;have He:=Zh_ he;clear he;go_enter func113,ntmps113;go_wp2
 go_step3
 go_wp2
 go_step3
 go_wp2
 go_loopw [6] (λ _ wr=>Zi 137 wr a b s/\wr.heap[k]? =some (.cells #[.int .i64 p0,.int .i64 p1,.int .i64 p2,.int .i64 p3,.int .i64 p4,.int .i64 p5,.int .i64 T,.int .u64 nd,.int .i64 nx,.int .i64 po] 243 (0,0))/\Ze [] w wr) (λ _ _=>0)
 case atStart=>exact ⟨hM,hk,Zr_ _ _⟩
 case round=>
  obtain ⟨M1,K1,D1⟩:=hrel;clear x0 x1 x2 x3 x4 x5 x6 x7 x8 x9 xf8 xf9;have ha1:=M1.lta;have hb1:=M1.ltb;have hk1:=lt_of_block K1;obtain ⟨y0,y1,y2,y3,y4,y5,y6,y7,y8,y9⟩:=Zc10a_ K1;have yf8:=Zb (i:=8) K1;have yf9:=Zb (i:=9) K1;go_wp2_with fail;go_quiet (fail);go_upto_region 4 with fail;generalize hwq:wr.drewN _=wq;have M2:Zi 137 wq a b s:=hwq ▸ M1.drewN _;have K2:wq.heap[k]? =some (.cells #[.int .i64 p0,.int .i64 p1,.int .i64 p2,.int .i64 p3,.int .i64 p4,.int .i64 p5,.int .i64 T,.int .u64 nd,.int .i64 nx,.int .i64 po] 243 (0,0)):=hwq ▸ K1;have D2:Ze [] w wq:=hwq ▸ D1.drewN _;clear y0 y1 y2 y3 y4 y5 y6 y7 y8 y9 yf8 yf9 hwq M1 K1 D1;obtain ⟨v0,v1,v2,v3,v4,v5,v6,v7,v8,v9⟩:=Zc10a_ K2;have vf8:=Zb (i:=8) K2;have vf9:=Zb (i:=9) K2
  go_cut [6,7] (λ x y wx=>x=.int .i64 (Vh p3 nx)/\y=.int .i64 (Yw p3 nx)/\Zi 137 wx a b s/\wx.heap[k]? =some (.cells #[.int .i64 p0,.int .i64 p1,.int .i64 p2,.int .i64 p3,.int .i64 p4,.int .i64 p5,.int .i64 T,.int .u64 nd,.int .i64 nx,.int .i64 po] 243 (0,0))/\Ze [] w wx)
  case first=>
   go_region_with (go_at_call 146;refine (Qh _ _ _ _ _ _ _ _).mono ?_;rintro e w1 ⟨rfl,rfl⟩)
   all_goals
    go_wp2_with fail;go_meet;exact ⟨rfl,rfl,by repeat (first|exact M2|refine Zi.drew ?_|refine Zi.alloc ?_ _),Zf _ K2,(by repeat (first|with_reducible exact Zr_ _ _|with_reducible assumption|with_reducible refine Ze.drew ?_|with_reducible refine Ze.drewN ?_ _|with_reducible refine Ze.alloc ?_ _|with_reducible refine Ze.setCell ?_ _ _ (.inl (by simp))))⟩
  case rest=>
   obtain ⟨rfl,rfl,M3,K3,D3⟩:=hcut;clear v0 v1 v2 v3 v4 v5 v6 v7 v8 v9 vf8 vf9 M2 K2 D2;obtain ⟨z0,z1,z2,z3,z4,z5,z6,z7,z8,z9⟩:=Zc10a_ K3;have zf8:=Zb (i:=8) K3;have zf9:=Zb (i:=9) K3;rw [He.out,Hat.out];go_wp2_with fail;refine (Vz M3 _).mono ?_;rintro e w2 ⟨rfl,M4,d4⟩;have K4:=d4.at K3 (by have:=M3.lta;have:=M3.ltb;simp;omega);have HD:Hid (Ze [a,b,k] w w2):=(D3.weak _).then d4 (by simp)
   have HM:=Zh_ M4;clear z0 z1 z2 z3 z4 z5 z6 z7 z8 z9 zf8 zf9 D3 d4 M3 M4 K3;obtain ⟨u0,u1,u2,u3,u4,u5,u6,u7,u8,u9⟩:=Zc10a_ K4;have uf8:=Zb (i:=8) K4;have uf9:=Zb (i:=9) K4;go_wp2_with fail;generalize hws:w2.setCell _ _=ws;have K5:ws.heap[k]? =some (.cells #[.int .i64 p0,.int .i64 p1,.int .i64 p2,.int .i64 p3,.int .i64 p4,.int .i64 p5,.int .i64 T,.int .u64 nd,.int .i64 (nx+1),.int .i64 po] 243 (0,0)):=by rw [<-hws];exact Zd _ K4
   have M5:Hid (Zi 137 ws a b (s.load (p3+nx))):=by rw [<-hws];exact HM.out.other _ _ _ (Ne.symm hka) (Ne.symm hkb)
   have D5:Hid (Ze [a,b,k] w ws):=by rw [<-hws];exact HD.out.setCell _ _ (.inl (by simp))
   clear hws HM HD K4 u0 u1 u2 u3 u4 u5 u6 u7 u8 u9 uf8 uf9;obtain ⟨q0,q1,q2,q3,q4,q5,q6,q7,q8,q9⟩:=Zc10a_ K5;have qf8:=Zb (i:=8) K5;have qf9:=Zb (i:=9) K5;go_quiet (fail);go_wp2;rw [Exit.noGoto_ret];go_ret2;exact ⟨rfl,by have MM:=M5.out;repeat (first|exact MM|refine Zi.drewN ?_ _|refine Zi.drew ?_),K5,by have DD:=D5.out;repeat (first|exact DD|refine Ze.drewN ?_ _|refine Ze.drew ?_)⟩
theorem scanF2_c {a b k:Nat} {s:Zh} {w:World} (hM:Zi 137 w a b s) (p0 p1 p2 p3 p4 p5 T nd nx po:Int) (hk:w.heap[k]? =some (.cells #[.int .i64 p0,.int .i64 p1,.int .i64 p2,.int .i64 p3,.int .i64 p4,.int .i64 p5,.int .i64 T,.int .u64 nd,.int .i64 nx,.int .i64 po] 243 (0,0))) (h1:1<=T) (h8:T<=8)(hn0:0<=nx)(hn:nx < T) (he:Yw p3 nx=0) (h0:s.acc (p3+nx)=0) (g0:(s.got (p3+nx) !=0)=true) (g1:nd < s.got (p3+nx)):
  Calls Tryz.prog 113 #[.pointer (some ⟨k,0,none⟩),.pointer (some ⟨a,0,none⟩)] w λ e w'=>e=.returned (.tuple #[.bool (nx+1==T),.int .i64 0])/\Zi 137 w' a b (s.load (p3+nx))/\w'.heap[k]? =some (.cells #[.int .i64 p0,.int .i64 p1,.int .i64 p2,.int .i64 p3,.int .i64 p4,.int .i64 p5,.int .i64 T,.int .u64 nd,.int .i64 (nx+1),.int .i64 po] 243 (0,0))/\Ze [a,b,k] w w':=by
 have ha:=hM.lta;have hb:=hM.ltb;have hkl:=lt_of_block hk;have hka:k≠a:=Zp hk hM.hd (by decide);have hkb:k≠b:=Zp hk hM.ws (by decide);obtain ⟨x0,x1,x2,x3,x4,x5,x6,x7,x8,x9⟩:=Zc10a_ hk;have xf8:=Zb (i:=8) hk;have xf9:=Zb (i:=9) hk;have hat:Vh p3 nx=p3+nx:=if_pos he;have Hat:=Zh_ hat;clear hat;have He:=Zh_ he;clear he;go_enter func113,ntmps113;go_wp2
 go_step3
 go_wp2
 go_step3
 go_wp2
 go_loopw [6] (λ _ wr=>Zi 137 wr a b s/\wr.heap[k]? =some (.cells #[.int .i64 p0,.int .i64 p1,.int .i64 p2,.int .i64 p3,.int .i64 p4,.int .i64 p5,.int .i64 T,.int .u64 nd,.int .i64 nx,.int .i64 po] 243 (0,0))/\Ze [] w wr) (λ _ _=>0)
 case atStart=>exact ⟨hM,hk,Zr_ _ _⟩
 case round=>
  obtain ⟨M1,K1,D1⟩:=hrel;clear x0 x1 x2 x3 x4 x5 x6 x7 x8 x9 xf8 xf9;have ha1:=M1.lta;have hb1:=M1.ltb;have hk1:=lt_of_block K1;obtain ⟨y0,y1,y2,y3,y4,y5,y6,y7,y8,y9⟩:=Zc10a_ K1;have yf8:=Zb (i:=8) K1;have yf9:=Zb (i:=9) K1;go_wp2_with fail;go_quiet (fail);go_upto_region 4 with fail;generalize hwq:wr.drewN _=wq;have M2:Zi 137 wq a b s:=hwq ▸ M1.drewN _;have K2:wq.heap[k]? =some (.cells #[.int .i64 p0,.int .i64 p1,.int .i64 p2,.int .i64 p3,.int .i64 p4,.int .i64 p5,.int .i64 T,.int .u64 nd,.int .i64 nx,.int .i64 po] 243 (0,0)):=hwq ▸ K1;have D2:Ze [] w wq:=hwq ▸ D1.drewN _;clear y0 y1 y2 y3 y4 y5 y6 y7 y8 y9 yf8 yf9 hwq M1 K1 D1;obtain ⟨v0,v1,v2,v3,v4,v5,v6,v7,v8,v9⟩:=Zc10a_ K2;have vf8:=Zb (i:=8) K2;have vf9:=Zb (i:=9) K2
  go_cut [6,7] (λ x y wx=>x=.int .i64 (Vh p3 nx)/\y=.int .i64 (Yw p3 nx)/\Zi 137 wx a b s/\wx.heap[k]? =some (.cells #[.int .i64 p0,.int .i64 p1,.int .i64 p2,.int .i64 p3,.int .i64 p4,.int .i64 p5,.int .i64 T,.int .u64 nd,.int .i64 nx,.int .i64 po] 243 (0,0))/\Ze [] w wx)
  case first=>
   go_region_with (go_at_call 146;refine (Qh _ _ _ _ _ _ _ _).mono ?_;rintro e w1 ⟨rfl,rfl⟩)
   all_goals
    go_wp2_with fail;go_meet;exact ⟨rfl,rfl,by repeat (first|exact M2|refine Zi.drew ?_|refine Zi.alloc ?_ _),Zf _ K2,(by repeat (first|with_reducible exact Zr_ _ _|with_reducible assumption|with_reducible refine Ze.drew ?_|with_reducible refine Ze.drewN ?_ _|with_reducible refine Ze.alloc ?_ _|with_reducible refine Ze.setCell ?_ _ _ (.inl (by simp))))⟩
  case rest=>
   obtain ⟨rfl,rfl,M3,K3,D3⟩:=hcut;clear v0 v1 v2 v3 v4 v5 v6 v7 v8 v9 vf8 vf9 M2 K2 D2;obtain ⟨z0,z1,z2,z3,z4,z5,z6,z7,z8,z9⟩:=Zc10a_ K3;have zf8:=Zb (i:=8) K3;have zf9:=Zb (i:=9) K3;rw [He.out,Hat.out];go_wp2_with fail;refine (Vz M3 _).mono ?_;rintro e w2 ⟨rfl,M4,d4⟩;have K4:=d4.at K3 (by have:=M3.lta;have:=M3.ltb;simp;omega);have HD:Hid (Ze [a,b,k] w w2):=(D3.weak _).then d4 (by simp)
   have HM:=Zh_ M4;clear z0 z1 z2 z3 z4 z5 z6 z7 z8 z9 zf8 zf9 D3 d4 M3 M4 K3;obtain ⟨u0,u1,u2,u3,u4,u5,u6,u7,u8,u9⟩:=Zc10a_ K4;have uf8:=Zb (i:=8) K4;have uf9:=Zb (i:=9) K4;go_wp2_with fail;generalize hws:w2.setCell _ _=ws;have K5:ws.heap[k]? =some (.cells #[.int .i64 p0,.int .i64 p1,.int .i64 p2,.int .i64 p3,.int .i64 p4,.int .i64 p5,.int .i64 T,.int .u64 nd,.int .i64 (nx+1),.int .i64 po] 243 (0,0)):=by rw [<-hws];exact Zd _ K4
   have M5:Hid (Zi 137 ws a b (s.load (p3+nx))):=by rw [<-hws];exact HM.out.other _ _ _ (Ne.symm hka) (Ne.symm hkb)
   have D5:Hid (Ze [a,b,k] w ws):=by rw [<-hws];exact HD.out.setCell _ _ (.inl (by simp))
   clear hws HM HD K4 u0 u1 u2 u3 u4 u5 u6 u7 u8 u9 uf8 uf9;obtain ⟨q0,q1,q2,q3,q4,q5,q6,q7,q8,q9⟩:=Zc10a_ K5;have qf8:=Zb (i:=8) K5;have qf9:=Zb (i:=9) K5;go_quiet (fail);go_wp2;rw [Exit.noGoto_ret];go_ret2;exact ⟨rfl,by have MM:=M5.out;repeat (first|exact MM|refine Zi.drewN ?_ _|refine Zi.drew ?_),K5,by have DD:=D5.out;repeat (first|exact DD|refine Ze.drewN ?_ _|refine Ze.drew ?_)⟩
end
section
structure Yf where
 (p0 p1 p2 p3 p4 p5 th n cl st:Int)
deriving DecidableEq
def Yf.arr (c:Yf):Array Value:=#[.int .i64 c.p0,.int .i64 c.p1,.int .i64 c.p2,.int .i64 c.p3,.int .i64 c.p4,.int .i64 c.p5,.int .i64 c.th,.int .i64 c.n,.int .u64 c.cl,.int .u64 c.st]
structure Yf.Inv (c:Yf):Prop where
 lo:0<=c.n
 hi:c.n<=3
 cl:c.n=0->c.cl=0
 st:c.n≠3->c.st=0
def Yf.err (c:Yf) (s:Zh):Int:=if c.n=3 then 3 else if c.th < 0\/8<=c.th then 100 else if c.n=1 then s.leaveE c.p3 c.th else s.acc c.p2
def Yf.mem (c:Yf) (s:Zh):Zh:=if c.n=3 then s else if c.th < 0\/8<=c.th then s else if c.n=1 then (if Yw c.p3 c.th=0 then s.store (c.p3+c.th) (IntKind.u64.wrap (c.cl+1)) else s) else s.load c.p2
def Yf.over (c:Yf) (s:Zh):Bool:=decide (c.n=2/\c.err s=0)
def Yf.next (c:Yf) (s:Zh):Yf:=if c.err s≠0 then c else if c.n=0 then {c with n:=1,cl:=s.got c.p2} else if c.n=1 then {c with n:=2} else {c with n:=3,st:=s.got c.p2}
theorem Mv {p3 th:Int} (h:¬ (th < 0\/8<=th)):(Yw p3 th==100)=false:=by
 rcases Vq p3 th with ⟨h1,_⟩|⟨_,_,_,e⟩|⟨_,_,_,_,e⟩
 ·exact absurd h1 h
 ·simp [e]
 ·simp [e]
theorem Ws {a b k:Nat} {s:Zh} {w:World} (hM:Zi 137 w a b s) (c:Yf) (hi:c.Inv) (hk:w.heap[k]? =some (.cells c.arr 189 (0,0))):
  Calls Tryz.prog 237 #[.pointer (some ⟨k,0,none⟩),.pointer (some ⟨a,0,none⟩)] w λ e w'=>e=.returned (.tuple #[.bool (c.over s),.int .i64 (c.err s)])/\Zi 137 w' a b (c.mem s)/\w'.heap[k]? =some (.cells (c.next s).arr 189 (0,0))/\Ze [a,b,k] w w':=by
 obtain ⟨p0,p1,p2,p3,p4,p5,th,n,cl,st⟩:=c;obtain ⟨hlo,hhi,hcl,hst⟩:=hi;dsimp only at hlo hhi hcl hst
 by_cases h3:n=3
 ·subst h3;have e1:(Yf.mk p0 p1 p2 p3 p4 p5 th 3 cl st).err s=3:=by simp [Yf.err]
  rw [e1,show (Yf.mk p0 p1 p2 p3 p4 p5 th 3 cl st).over s=false by simp [Yf.over],show (Yf.mk p0 p1 p2 p3 p4 p5 th 3 cl st).mem s=s by simp [Yf.mem],show (Yf.mk p0 p1 p2 p3 p4 p5 th 3 cl st).next s=Yf.mk p0 p1 p2 p3 p4 p5 th 3 cl st by simp [Yf.next,e1]];exact com3_c hM p0 p1 p2 p3 p4 p5 th cl st hk
 ·have hst0:=hst h3;subst hst0
  by_cases ht:th < 0\/8<=th
  ·have e1:(Yf.mk p0 p1 p2 p3 p4 p5 th n cl 0).err s=100:=by simp [Yf.err,h3,ht]
   rw [e1,show (Yf.mk p0 p1 p2 p3 p4 p5 th n cl 0).over s=false by simp [Yf.over,e1],show (Yf.mk p0 p1 p2 p3 p4 p5 th n cl 0).mem s=s by simp [Yf.mem,h3,ht],show (Yf.mk p0 p1 p2 p3 p4 p5 th n cl 0).next s=Yf.mk p0 p1 p2 p3 p4 p5 th n cl 0 by simp [Yf.next,e1]];exact comT_c hM p0 p1 p2 p3 p4 p5 th cl 0 n hk (by simp [h3]) (Bc ht)
  ·have hq:=Mv (p3:=p3) ht;have t0:0<=th:=by omega
   have t8:th < 8:=by omega
   by_cases h0:n=0
   ·subst h0;have hc0:=hcl rfl;subst hc0
    by_cases ha:s.acc p2=0
    ·have e1:(Yf.mk p0 p1 p2 p3 p4 p5 th 0 0 0).err s=0:=by simp [Yf.err,ht,ha]
     rw [e1,show (Yf.mk p0 p1 p2 p3 p4 p5 th 0 0 0).over s=false by simp [Yf.over],show (Yf.mk p0 p1 p2 p3 p4 p5 th 0 0 0).mem s=s.load p2 by simp [Yf.mem,ht],show (Yf.mk p0 p1 p2 p3 p4 p5 th 0 0 0).next s=Yf.mk p0 p1 p2 p3 p4 p5 th 1 (s.got p2) 0 by simp [Yf.next,e1]];exact com0ok_c hM p0 p1 p2 p3 p4 p5 th 0 0 hk hq ha
    ·have e1:(Yf.mk p0 p1 p2 p3 p4 p5 th 0 0 0).err s=s.acc p2:=by simp [Yf.err,ht]
     have hg:s.got p2=0:=R8 s ha;rw [e1,show (Yf.mk p0 p1 p2 p3 p4 p5 th 0 0 0).over s=false by simp [Yf.over],show (Yf.mk p0 p1 p2 p3 p4 p5 th 0 0 0).mem s=s.load p2 by simp [Yf.mem,ht],show (Yf.mk p0 p1 p2 p3 p4 p5 th 0 0 0).next s=Yf.mk p0 p1 p2 p3 p4 p5 th 0 0 0 by simp [Yf.next,e1,ha]];have:=Wv hM p0 p1 p2 p3 p4 p5 th 0 0 hk hq (by simp [ha]);rw [hg] at this;exact this
   ·by_cases h1:n=1
    ·subst h1
     by_cases hp:Yw p3 th=0
     ·obtain ⟨-,-,hp0,hp1⟩:=Ph hp
      by_cases ha:s.acc (p3+th)=0
      ·have e1:(Yf.mk p0 p1 p2 p3 p4 p5 th 1 cl 0).err s=0:=by simp [Yf.err,ht,Zh.leaveE,hp,ha]
       rw [e1,show (Yf.mk p0 p1 p2 p3 p4 p5 th 1 cl 0).over s=false by simp [Yf.over],show (Yf.mk p0 p1 p2 p3 p4 p5 th 1 cl 0).mem s=s.store (p3+th) (IntKind.u64.wrap (cl+1)) by simp [Yf.mem,ht,hp],show (Yf.mk p0 p1 p2 p3 p4 p5 th 1 cl 0).next s=Yf.mk p0 p1 p2 p3 p4 p5 th 2 cl 0 by simp [Yf.next,e1]];exact com1ok_c hM p0 p1 p2 p3 p4 p5 th cl 0 hk hp ha
      ·have e1:(Yf.mk p0 p1 p2 p3 p4 p5 th 1 cl 0).err s=s.acc (p3+th):=by simp [Yf.err,ht,Zh.leaveE,hp]
       rw [e1,show (Yf.mk p0 p1 p2 p3 p4 p5 th 1 cl 0).over s=false by simp [Yf.over],show (Yf.mk p0 p1 p2 p3 p4 p5 th 1 cl 0).mem s=s.store (p3+th) (IntKind.u64.wrap (cl+1)) by simp [Yf.mem,ht,hp],show (Yf.mk p0 p1 p2 p3 p4 p5 th 1 cl 0).next s=Yf.mk p0 p1 p2 p3 p4 p5 th 1 cl 0 by simp [Yf.next,e1,ha]];exact Wu hM p0 p1 p2 p3 p4 p5 th cl 0 hk hp (by simp [ha])
     ·have hpe:Yw p3 th=30/\(p3 < 0\/4096 < p3):=by
       rcases Vq p3 th with ⟨h1,_⟩|⟨_,_,h,e⟩|⟨_,_,_,_,e⟩
       ·exact absurd h1 ht
       ·exact ⟨e,h⟩
       ·exact absurd e hp
      have e1:(Yf.mk p0 p1 p2 p3 p4 p5 th 1 cl 0).err s=30:=by simp [Yf.err,ht,Zh.leaveE,hpe.1]
      rw [e1,show (Yf.mk p0 p1 p2 p3 p4 p5 th 1 cl 0).over s=false by simp [Yf.over],show (Yf.mk p0 p1 p2 p3 p4 p5 th 1 cl 0).mem s=s by simp [Yf.mem,ht,hp],show (Yf.mk p0 p1 p2 p3 p4 p5 th 1 cl 0).next s=Yf.mk p0 p1 p2 p3 p4 p5 th 1 cl 0 by simp [Yf.next,e1]];exact Ts hM p0 p1 p2 p3 p4 p5 th cl 0 hk hpe.1
    ·have h2:n=2:=by omega
     subst h2
     by_cases ha:s.acc p2=0
     ·have e1:(Yf.mk p0 p1 p2 p3 p4 p5 th 2 cl 0).err s=0:=by simp [Yf.err,ht,ha]
      rw [e1,show (Yf.mk p0 p1 p2 p3 p4 p5 th 2 cl 0).over s=true by simp [Yf.over,e1],show (Yf.mk p0 p1 p2 p3 p4 p5 th 2 cl 0).mem s=s.load p2 by simp [Yf.mem,ht],show (Yf.mk p0 p1 p2 p3 p4 p5 th 2 cl 0).next s=Yf.mk p0 p1 p2 p3 p4 p5 th 3 cl (s.got p2) by simp [Yf.next,e1]];exact com2ok_c hM p0 p1 p2 p3 p4 p5 th cl 0 hk hq ha
     ·have e1:(Yf.mk p0 p1 p2 p3 p4 p5 th 2 cl 0).err s=s.acc p2:=by simp [Yf.err,ht]
      have hg:s.got p2=0:=R8 s ha;rw [e1,show (Yf.mk p0 p1 p2 p3 p4 p5 th 2 cl 0).over s=false by simp [Yf.over,e1,ha],show (Yf.mk p0 p1 p2 p3 p4 p5 th 2 cl 0).mem s=s.load p2 by simp [Yf.mem,ht],show (Yf.mk p0 p1 p2 p3 p4 p5 th 2 cl 0).next s=Yf.mk p0 p1 p2 p3 p4 p5 th 2 cl 0 by simp [Yf.next,e1,ha]];have:=Wt hM p0 p1 p2 p3 p4 p5 th cl 0 hk hq (by simp [ha]);rw [hg] at this;exact this
structure Z3 where
 (p0 p1 p2 p3 p4 p5 T nd nx po:Int)
deriving DecidableEq
def Z3.arr (c:Z3):Array Value:=#[.int .i64 c.p0,.int .i64 c.p1,.int .i64 c.p2,.int .i64 c.p3,.int .i64 c.p4,.int .i64 c.p5,.int .i64 c.T,.int .u64 c.nd,.int .i64 c.nx,.int .i64 c.po]
structure Z3.Inv (c:Z3):Prop where
 lo:0<=c.nx
 hi:1<=c.T->c.T<=8->c.nx<=c.T
def Z3.err (c:Z3) (s:Zh):Int:=if c.T < 1\/8 < c.T then 100 else if c.nx=c.T then 3 else s.leaveE c.p3 c.nx
def Z3.mem (c:Z3) (s:Zh):Zh:=if c.T < 1\/8 < c.T then s else if c.nx=c.T then s else if Yw c.p3 c.nx=0 then s.load (c.p3+c.nx) else s
def Z3.passes (c:Z3) (s:Zh):Bool:=decide (s.got (c.p3+c.nx)=0\/c.nd < s.got (c.p3+c.nx))
def Z3.over (c:Z3) (s:Zh):Bool:=if c.err s=0 then (if c.passes s=true then c.nx+1==c.T else false) else false
def Z3.next (c:Z3) (s:Zh):Z3:=if c.err s≠0 then c else if c.passes s=true then {c with nx:=c.nx+1} else {c with po:=wrap64 (c.po+1)}
theorem Co {a b k:Nat} {s:Zh} {w:World} (hM:Zi 137 w a b s) (c:Z3) (hi:c.Inv) (hk:w.heap[k]? =some (.cells c.arr 243 (0,0))):
  Calls Tryz.prog 113 #[.pointer (some ⟨k,0,none⟩),.pointer (some ⟨a,0,none⟩)] w λ e w'=>e=.returned (.tuple #[.bool (c.over s),.int .i64 (c.err s)])/\Zi 137 w' a b (c.mem s)/\w'.heap[k]? =some (.cells (c.next s).arr 243 (0,0))/\Ze [a,b,k] w w':=by
 obtain ⟨p0,p1,p2,p3,p4,p5,T,nd,nx,po⟩:=c;obtain ⟨hlo,hhi⟩:=hi;dsimp only at hlo hhi
 by_cases hT:T < 1\/8 < T
 ·have e1:(Z3.mk p0 p1 p2 p3 p4 p5 T nd nx po).err s=100:=by simp [Z3.err,hT]
  rw [e1,show (Z3.mk p0 p1 p2 p3 p4 p5 T nd nx po).over s=false by simp [Z3.over,e1],show (Z3.mk p0 p1 p2 p3 p4 p5 T nd nx po).mem s=s by simp [Z3.mem,hT],show (Z3.mk p0 p1 p2 p3 p4 p5 T nd nx po).next s=(Z3.mk p0 p1 p2 p3 p4 p5 T nd nx po) by simp [Z3.next,e1]]
  by_cases h1:T < 1
  ·exact scanA1_c hM p0 p1 p2 p3 p4 p5 T nd nx po hk h1
  ·exact scanA2_c hM p0 p1 p2 p3 p4 p5 T nd nx po hk (by omega) (by omega)
 ·have hl:=hhi (by omega) (by omega)
  by_cases hn:nx=T
  ·subst hn;have e1:(Z3.mk p0 p1 p2 p3 p4 p5 nx nd nx po).err s=3:=by simp [Z3.err,hT]
   rw [e1,show (Z3.mk p0 p1 p2 p3 p4 p5 nx nd nx po).over s=false by simp [Z3.over,e1],show (Z3.mk p0 p1 p2 p3 p4 p5 nx nd nx po).mem s=s by simp [Z3.mem],show (Z3.mk p0 p1 p2 p3 p4 p5 nx nd nx po).next s=Z3.mk p0 p1 p2 p3 p4 p5 nx nd nx po by simp [Z3.next,e1]];exact scanB_c hM p0 p1 p2 p3 p4 p5 nx nd po hk (by omega) (by omega)
  ·have t8:nx < 8:=by omega
   have hlt:nx < T:=by omega
   by_cases hp:Yw p3 nx=0
   ·obtain ⟨-,-,hp0,hp1⟩:=Ph hp;rw [show (Z3.mk p0 p1 p2 p3 p4 p5 T nd nx po).mem s=s.load (p3+nx) by simp [Z3.mem,hT,hn,hp]]
    by_cases ha:s.acc (p3+nx)=0
    ·have e1:(Z3.mk p0 p1 p2 p3 p4 p5 T nd nx po).err s=0:=by simp [Z3.err,hT,hn,Zh.leaveE,hp,ha]
     by_cases g0:s.got (p3+nx)=0
     ·have hps:(Z3.mk p0 p1 p2 p3 p4 p5 T nd nx po).passes s=true:=by simp [Z3.passes,g0]
      rw [e1,show (Z3.mk p0 p1 p2 p3 p4 p5 T nd nx po).over s=(nx+1==T) by simp [Z3.over,e1,hps],show (Z3.mk p0 p1 p2 p3 p4 p5 T nd nx po).next s=Z3.mk p0 p1 p2 p3 p4 p5 T nd (nx+1) po by simp [Z3.next,e1,hps]];exact scanF1_c hM p0 p1 p2 p3 p4 p5 T nd nx po hk (by omega) (by omega) hlo hlt hp ha g0
     ·by_cases g1:nd < s.got (p3+nx)
      ·have hps:(Z3.mk p0 p1 p2 p3 p4 p5 T nd nx po).passes s=true:=by simp [Z3.passes,g1]
       rw [e1,show (Z3.mk p0 p1 p2 p3 p4 p5 T nd nx po).over s=(nx+1==T) by simp [Z3.over,e1,hps],show (Z3.mk p0 p1 p2 p3 p4 p5 T nd nx po).next s=Z3.mk p0 p1 p2 p3 p4 p5 T nd (nx+1) po by simp [Z3.next,e1,hps]];exact scanF2_c hM p0 p1 p2 p3 p4 p5 T nd nx po hk (by omega) (by omega) hlo hlt hp ha (by simp [g0]) g1
      ·have hps:(Z3.mk p0 p1 p2 p3 p4 p5 T nd nx po).passes s=false:=by simp [Z3.passes,g0];omega
       rw [e1,show (Z3.mk p0 p1 p2 p3 p4 p5 T nd nx po).over s=false by simp [Z3.over,hps],show (Z3.mk p0 p1 p2 p3 p4 p5 T nd nx po).next s=Z3.mk p0 p1 p2 p3 p4 p5 T nd nx (wrap64 (po+1)) by simp [Z3.next,e1,hps]];exact scanE_c hM p0 p1 p2 p3 p4 p5 T nd nx po hk (by omega) (by omega) hlt hp ha (by simp [g0]) (by omega) (by simp [hn])
    ·have e1:(Z3.mk p0 p1 p2 p3 p4 p5 T nd nx po).err s=s.acc (p3+nx):=by simp [Z3.err,hT,hn,Zh.leaveE,hp]
     rw [e1,show (Z3.mk p0 p1 p2 p3 p4 p5 T nd nx po).over s=false by simp [Z3.over,e1,ha],show (Z3.mk p0 p1 p2 p3 p4 p5 T nd nx po).next s=(Z3.mk p0 p1 p2 p3 p4 p5 T nd nx po) by simp [Z3.next,e1,ha]];exact scanD_c hM p0 p1 p2 p3 p4 p5 T nd nx po hk (by omega) (by omega) hlt hp (by simp [ha])
   ·have hpe:Yw p3 nx=30/\(p3 < 0\/4096 < p3):=by
     rcases Vq p3 nx with ⟨h1,_⟩|⟨_,_,h,e⟩|⟨_,_,_,_,e⟩
     ·omega
     ·exact ⟨e,h⟩
     ·exact absurd e hp
    have e1:(Z3.mk p0 p1 p2 p3 p4 p5 T nd nx po).err s=30:=by simp [Z3.err,hT,hn,Zh.leaveE,hpe.1]
    rw [e1,show (Z3.mk p0 p1 p2 p3 p4 p5 T nd nx po).over s=false by simp [Z3.over,e1],show (Z3.mk p0 p1 p2 p3 p4 p5 T nd nx po).mem s=s by simp [Z3.mem,hp],show (Z3.mk p0 p1 p2 p3 p4 p5 T nd nx po).next s=(Z3.mk p0 p1 p2 p3 p4 p5 T nd nx po) by simp [Z3.next,e1]];exact scanC_c hM p0 p1 p2 p3 p4 p5 T nd nx po hk (by omega) (by omega) hlt hpe.1
theorem Tq {k:Nat} {w:World} (c:Yf) (hk:w.heap[k]? =some (.cells c.arr 189 (0,0))):
  Calls Tryz.prog 236 #[.pointer (some ⟨k,0,none⟩)] w λ e w'=>e=.returned (.int .u64 c.st)/\w'=w:=by
 have x:w.cell? ⟨k,9,none⟩=some (.int .u64 c.st):=Za hk rfl;go_enter func236,ntmps236;go_wp2;go_ret;exact ⟨rfl,rfl⟩
theorem come_c (p0 p1 p2 p3 p4 p5 th:Int) (w:World):
  Calls Tryz.prog 76 #[.agg #[.int .i64 p0,.int .i64 p1,.int .i64 p2,.int .i64 p3,.int .i64 p4,.int .i64 p5],.int .i64 th] w λ e w'=>e=.returned (.pointer (some ⟨w.heap.size+1,0,none⟩))/\w'=(w.alloc (.cells #[.int .i64 p0,.int .i64 p1,.int .i64 p2,.int .i64 p3,.int .i64 p4,.int .i64 p5] 74)).alloc (.cells (Yf.mk p0 p1 p2 p3 p4 p5 th 0 0 0).arr 189):=by
 go_enter func76,ntmps76;go_wp2;go_ret;exact ⟨rfl,rfl⟩
theorem look_c13 (p0 p1 p2 p3 p4 p5 th nd:Int) (w:World):
  Calls Tryz.prog 112 #[.agg #[.int .i64 p0,.int .i64 p1,.int .i64 p2,.int .i64 p3,.int .i64 p4,.int .i64 p5],.int .i64 th,.int .u64 nd] w λ e w'=>e=.returned (.pointer (some ⟨w.heap.size+1,0,none⟩))/\w'=(w.alloc (.cells #[.int .i64 p0,.int .i64 p1,.int .i64 p2,.int .i64 p3,.int .i64 p4,.int .i64 p5] 74)).alloc (.cells (Z3.mk p0 p1 p2 p3 p4 p5 th nd 0 0).arr 243):=by
 go_enter func112,ntmps112;go_wp2;go_ret;exact ⟨rfl,rfl⟩
end
end Go.Proofs.YtkhonmhnchdpkaaGreat
