/- A part of the proof; no condition. -/
import Derived.Test.YtkhonmhnchdpkaaGreatP15
set_option maxRecDepth 100000
set_option maxHeartbeats 40000000
namespace Go.Proofs.YtkhonmhnchdpkaaGreat
open Go.RowKit _root_.Go.Proofs.Tryz
section
attribute [local go_sem] Zj
variable {a b k:Nat} {s:Zh} {w:World} {p0 p1 p2 p3 p4 p5 c st pa ve sp:Int} {va:Nat} {tn:Bool}
theorem rstep4 (hk:w.heap[k]? =some (.cells #[.int .i64 p0,.int .i64 p1,.int .i64 p2,.int .i64 p3,.int .i64 p4,.int .i64 p5,.int .i64 c,.int .u64 st,.int .i64 4,.int .u64 ve,.float .f64 va,.int .i64 sp,.bool tn] 287 (0,0))):
  Calls Tryz.prog 241 #[.pointer (some ⟨k,0,none⟩),.pointer (some ⟨a,0,none⟩)] w λ e w'=>e=.returned (.tuple #[.bool false,.int .i64 3])/\w'=w:=by
 have r8:w.cell? ⟨k,8,none⟩=some (.int .i64 4):=Za hk rfl;go_enter func241,ntmps241;go_wp2;go_ret2;exact ⟨rfl,rfl⟩
theorem rbad0 (hM:Zi 137 w a b s) (hk:w.heap[k]? =some (.cells #[.int .i64 p0,.int .i64 p1,.int .i64 p2,.int .i64 p3,.int .i64 p4,.int .i64 p5,.int .i64 c,.int .u64 st,.int .i64 0,.int .u64 ve,.float .f64 va,.int .i64 sp,.bool tn] 287 (0,0))) (he:(s.cellE p4 c 0 !=0)=true):
  Calls Tryz.prog 241 #[.pointer (some ⟨k,0,none⟩),.pointer (some ⟨a,0,none⟩)] w λ e w'=>e=.returned (.tuple #[.bool false,.int .i64 (s.cellE p4 c 0)])/\Zi 137 w' a b (s.cellM p4 c 0)/\w'.heap[k]? =some (.cells #[.int .i64 p0,.int .i64 p1,.int .i64 p2,.int .i64 p3,.int .i64 p4,.int .i64 p5,.int .i64 c,.int .u64 st,.int .i64 0,.int .u64 ve,.float .f64 va,.int .i64 sp,.bool tn] 287 (0,0))/\Ze [a,b,k] w w':=by
 have hka:k≠a:=Zp hk hM.hd (by decide);have hkb:k≠b:=Zp hk hM.ws (by decide);obtain ⟨r0,r1,r2,r3,r4,r5,r6⟩:=Zc7g_ hk;have r8:w.cell? ⟨k,8,none⟩=some (.int .i64 0):=Za hk rfl;go_enter func241,ntmps241;go_wp2_with fail;refine (next0 hk).mono ?_;rintro e w1 ⟨rfl,hw1⟩;have hw1':=hw1.symm;subst hw1';go_upto_region 4 with fail
 go_cut [8,9] (λ A C wx=>A=.int .u64 (s.cellV p4 c 0)/\C=.int .i64 (s.cellE p4 c 0)/\Zi 137 wx a b (s.cellM p4 c 0)/\wx.heap[k]? =some (.cells #[.int .i64 p0,.int .i64 p1,.int .i64 p2,.int .i64 p3,.int .i64 p4,.int .i64 p5,.int .i64 c,.int .u64 st,.int .i64 0,.int .u64 ve,.float .f64 va,.int .i64 sp,.bool tn] 287 (0,0))/\Ze [a,b,k] w wx)
 case first=>
  go_region_held3 (λ wx=>wx.cell? ⟨k,0,none⟩=some (.int .i64 p0)/\wx.cell? ⟨k,1,none⟩=some (.int .i64 p1)/\wx.cell? ⟨k,2,none⟩=some (.int .i64 p2)/\wx.cell? ⟨k,3,none⟩=some (.int .i64 p3)/\wx.cell? ⟨k,4,none⟩=some (.int .i64 p4)/\wx.cell? ⟨k,5,none⟩=some (.int .i64 p5)/\wx.cell? ⟨k,6,none⟩=some (.int .i64 c)) (first|exact ⟨r0,r1,r2,r3,r4,r5,r6⟩|exact ⟨Za K2 rfl,Za K2 rfl,Za K2 rfl,Za K2 rfl,Za K2 rfl,Za K2 rfl,Za K2 rfl⟩)
   (first|(go_at_call 144;refine (V1 hM.drew p0 p1 p2 p3 p4 p5 c 0 (by omega) (by omega)).mono ?_;rintro e w2 ⟨rfl,M2,d2⟩;have K2:=d2.at (k:=k) (o:=.cells #[.int .i64 p0,.int .i64 p1,.int .i64 p2,.int .i64 p3,.int .i64 p4,.int .i64 p5,.int .i64 c,.int .u64 st,.int .i64 0,.int .u64 ve,.float .f64 va,.int .i64 sp,.bool tn] 287 (0,0)) hk (by simp [hka,hkb])))
  all_goals
   go_wp2_with fail;go_meet;exact ⟨rfl,rfl,M2,K2,(Zr_ _ _).drew.trans (d2.mono (by simp))⟩
 case rest=>
  obtain ⟨rfl,rfl,M3,K3,D3⟩:=hcut;clear r0 r1 r2 r3 r4 r5 r6 r8 hM hk;obtain ⟨w3,rfl⟩:∃ w3,w3=wc:=⟨_,rfl⟩;go_wp2;go_ret2;exact ⟨rfl,M3,K3,D3⟩
theorem rbad1 (hM:Zi 137 w a b s) (hk:w.heap[k]? =some (.cells #[.int .i64 p0,.int .i64 p1,.int .i64 p2,.int .i64 p3,.int .i64 p4,.int .i64 p5,.int .i64 c,.int .u64 st,.int .i64 1,.int .u64 ve,.float .f64 va,.int .i64 sp,.bool tn] 287 (0,0))) (he:(s.cellE p4 c 1 !=0)=true):
  Calls Tryz.prog 241 #[.pointer (some ⟨k,0,none⟩),.pointer (some ⟨a,0,none⟩)] w λ e w'=>e=.returned (.tuple #[.bool false,.int .i64 (s.cellE p4 c 1)])/\Zi 137 w' a b (s.cellM p4 c 1)/\w'.heap[k]? =some (.cells #[.int .i64 p0,.int .i64 p1,.int .i64 p2,.int .i64 p3,.int .i64 p4,.int .i64 p5,.int .i64 c,.int .u64 st,.int .i64 1,.int .u64 ve,.float .f64 va,.int .i64 sp,.bool tn] 287 (0,0))/\Ze [a,b,k] w w':=by
 have hka:k≠a:=Zp hk hM.hd (by decide);have hkb:k≠b:=Zp hk hM.ws (by decide);obtain ⟨r0,r1,r2,r3,r4,r5,r6⟩:=Zc7g_ hk;have r8:w.cell? ⟨k,8,none⟩=some (.int .i64 1):=Za hk rfl;go_enter func241,ntmps241;go_wp2_with fail;refine (next1 hk).mono ?_;rintro e w1 ⟨rfl,hw1⟩;have hw1':=hw1.symm;subst hw1';go_upto_region 4 with fail
 go_cut [8,9] (λ A C wx=>A=.int .u64 (s.cellV p4 c 1)/\C=.int .i64 (s.cellE p4 c 1)/\Zi 137 wx a b (s.cellM p4 c 1)/\wx.heap[k]? =some (.cells #[.int .i64 p0,.int .i64 p1,.int .i64 p2,.int .i64 p3,.int .i64 p4,.int .i64 p5,.int .i64 c,.int .u64 st,.int .i64 1,.int .u64 ve,.float .f64 va,.int .i64 sp,.bool tn] 287 (0,0))/\Ze [a,b,k] w wx)
 case first=>
  go_region_held3 (λ wx=>wx.cell? ⟨k,0,none⟩=some (.int .i64 p0)/\wx.cell? ⟨k,1,none⟩=some (.int .i64 p1)/\wx.cell? ⟨k,2,none⟩=some (.int .i64 p2)/\wx.cell? ⟨k,3,none⟩=some (.int .i64 p3)/\wx.cell? ⟨k,4,none⟩=some (.int .i64 p4)/\wx.cell? ⟨k,5,none⟩=some (.int .i64 p5)/\wx.cell? ⟨k,6,none⟩=some (.int .i64 c)) (first|exact ⟨r0,r1,r2,r3,r4,r5,r6⟩|exact ⟨Za K2 rfl,Za K2 rfl,Za K2 rfl,Za K2 rfl,Za K2 rfl,Za K2 rfl,Za K2 rfl⟩)
   (first|(go_at_call 144;refine (V1 hM.drew p0 p1 p2 p3 p4 p5 c 1 (by omega) (by omega)).mono ?_;rintro e w2 ⟨rfl,M2,d2⟩;have K2:=d2.at (k:=k) (o:=.cells #[.int .i64 p0,.int .i64 p1,.int .i64 p2,.int .i64 p3,.int .i64 p4,.int .i64 p5,.int .i64 c,.int .u64 st,.int .i64 1,.int .u64 ve,.float .f64 va,.int .i64 sp,.bool tn] 287 (0,0)) hk (by simp [hka,hkb])))
  all_goals
   go_wp2_with fail;go_meet;exact ⟨rfl,rfl,M2,K2,(Zr_ _ _).drew.trans (d2.mono (by simp))⟩
 case rest=>
  obtain ⟨rfl,rfl,M3,K3,D3⟩:=hcut;clear r0 r1 r2 r3 r4 r5 r6 r8 hM hk;obtain ⟨w3,rfl⟩:∃ w3,w3=wc:=⟨_,rfl⟩;go_wp2;go_ret2;exact ⟨rfl,M3,K3,D3⟩
theorem rbad2 (hM:Zi 137 w a b s) (hk:w.heap[k]? =some (.cells #[.int .i64 p0,.int .i64 p1,.int .i64 p2,.int .i64 p3,.int .i64 p4,.int .i64 p5,.int .i64 c,.int .u64 st,.int .i64 2,.int .u64 ve,.float .f64 va,.int .i64 sp,.bool tn] 287 (0,0))) (he:(s.cellE p4 c 0 !=0)=true):
  Calls Tryz.prog 241 #[.pointer (some ⟨k,0,none⟩),.pointer (some ⟨a,0,none⟩)] w λ e w'=>e=.returned (.tuple #[.bool false,.int .i64 (s.cellE p4 c 0)])/\Zi 137 w' a b (s.cellM p4 c 0)/\w'.heap[k]? =some (.cells #[.int .i64 p0,.int .i64 p1,.int .i64 p2,.int .i64 p3,.int .i64 p4,.int .i64 p5,.int .i64 c,.int .u64 st,.int .i64 2,.int .u64 ve,.float .f64 va,.int .i64 sp,.bool tn] 287 (0,0))/\Ze [a,b,k] w w':=by
 have hka:k≠a:=Zp hk hM.hd (by decide);have hkb:k≠b:=Zp hk hM.ws (by decide);obtain ⟨r0,r1,r2,r3,r4,r5,r6⟩:=Zc7g_ hk;have r8:w.cell? ⟨k,8,none⟩=some (.int .i64 2):=Za hk rfl;go_enter func241,ntmps241;go_wp2_with fail;refine (next2 hk).mono ?_;rintro e w1 ⟨rfl,hw1⟩;have hw1':=hw1.symm;subst hw1';go_upto_region 4 with fail
 go_cut [8,9] (λ A C wx=>A=.int .u64 (s.cellV p4 c 0)/\C=.int .i64 (s.cellE p4 c 0)/\Zi 137 wx a b (s.cellM p4 c 0)/\wx.heap[k]? =some (.cells #[.int .i64 p0,.int .i64 p1,.int .i64 p2,.int .i64 p3,.int .i64 p4,.int .i64 p5,.int .i64 c,.int .u64 st,.int .i64 2,.int .u64 ve,.float .f64 va,.int .i64 sp,.bool tn] 287 (0,0))/\Ze [a,b,k] w wx)
 case first=>
  go_region_held3 (λ wx=>wx.cell? ⟨k,0,none⟩=some (.int .i64 p0)/\wx.cell? ⟨k,1,none⟩=some (.int .i64 p1)/\wx.cell? ⟨k,2,none⟩=some (.int .i64 p2)/\wx.cell? ⟨k,3,none⟩=some (.int .i64 p3)/\wx.cell? ⟨k,4,none⟩=some (.int .i64 p4)/\wx.cell? ⟨k,5,none⟩=some (.int .i64 p5)/\wx.cell? ⟨k,6,none⟩=some (.int .i64 c)) (first|exact ⟨r0,r1,r2,r3,r4,r5,r6⟩|exact ⟨Za K2 rfl,Za K2 rfl,Za K2 rfl,Za K2 rfl,Za K2 rfl,Za K2 rfl,Za K2 rfl⟩)
   (first|(go_at_call 144;refine (V1 hM.drew p0 p1 p2 p3 p4 p5 c 0 (by omega) (by omega)).mono ?_;rintro e w2 ⟨rfl,M2,d2⟩;have K2:=d2.at (k:=k) (o:=.cells #[.int .i64 p0,.int .i64 p1,.int .i64 p2,.int .i64 p3,.int .i64 p4,.int .i64 p5,.int .i64 c,.int .u64 st,.int .i64 2,.int .u64 ve,.float .f64 va,.int .i64 sp,.bool tn] 287 (0,0)) hk (by simp [hka,hkb])))
  all_goals
   go_wp2_with fail;go_meet;exact ⟨rfl,rfl,M2,K2,(Zr_ _ _).drew.trans (d2.mono (by simp))⟩
 case rest=>
  obtain ⟨rfl,rfl,M3,K3,D3⟩:=hcut;clear r0 r1 r2 r3 r4 r5 r6 r8 hM hk;obtain ⟨w3,rfl⟩:∃ w3,w3=wc:=⟨_,rfl⟩;go_wp2;go_ret2;exact ⟨rfl,M3,K3,D3⟩
theorem rbad3 (hM:Zi 137 w a b s) (hk:w.heap[k]? =some (.cells #[.int .i64 p0,.int .i64 p1,.int .i64 p2,.int .i64 p3,.int .i64 p4,.int .i64 p5,.int .i64 c,.int .u64 st,.int .i64 3,.int .u64 ve,.float .f64 va,.int .i64 sp,.bool tn] 287 (0,0))) (he:(s.cellE p4 c 2 !=0)=true):
  Calls Tryz.prog 241 #[.pointer (some ⟨k,0,none⟩),.pointer (some ⟨a,0,none⟩)] w λ e w'=>e=.returned (.tuple #[.bool false,.int .i64 (s.cellE p4 c 2)])/\Zi 137 w' a b (s.cellM p4 c 2)/\w'.heap[k]? =some (.cells #[.int .i64 p0,.int .i64 p1,.int .i64 p2,.int .i64 p3,.int .i64 p4,.int .i64 p5,.int .i64 c,.int .u64 st,.int .i64 3,.int .u64 ve,.float .f64 va,.int .i64 sp,.bool tn] 287 (0,0))/\Ze [a,b,k] w w':=by
 have hka:k≠a:=Zp hk hM.hd (by decide);have hkb:k≠b:=Zp hk hM.ws (by decide);obtain ⟨r0,r1,r2,r3,r4,r5,r6⟩:=Zc7g_ hk;have r8:w.cell? ⟨k,8,none⟩=some (.int .i64 3):=Za hk rfl;go_enter func241,ntmps241;go_wp2_with fail;refine (next3 hk).mono ?_;rintro e w1 ⟨rfl,hw1⟩;have hw1':=hw1.symm;subst hw1';go_upto_region 4 with fail
 go_cut [8,9] (λ A C wx=>A=.int .u64 (s.cellV p4 c 2)/\C=.int .i64 (s.cellE p4 c 2)/\Zi 137 wx a b (s.cellM p4 c 2)/\wx.heap[k]? =some (.cells #[.int .i64 p0,.int .i64 p1,.int .i64 p2,.int .i64 p3,.int .i64 p4,.int .i64 p5,.int .i64 c,.int .u64 st,.int .i64 3,.int .u64 ve,.float .f64 va,.int .i64 sp,.bool tn] 287 (0,0))/\Ze [a,b,k] w wx)
 case first=>
  go_region_held3 (λ wx=>wx.cell? ⟨k,0,none⟩=some (.int .i64 p0)/\wx.cell? ⟨k,1,none⟩=some (.int .i64 p1)/\wx.cell? ⟨k,2,none⟩=some (.int .i64 p2)/\wx.cell? ⟨k,3,none⟩=some (.int .i64 p3)/\wx.cell? ⟨k,4,none⟩=some (.int .i64 p4)/\wx.cell? ⟨k,5,none⟩=some (.int .i64 p5)/\wx.cell? ⟨k,6,none⟩=some (.int .i64 c)) (first|exact ⟨r0,r1,r2,r3,r4,r5,r6⟩|exact ⟨Za K2 rfl,Za K2 rfl,Za K2 rfl,Za K2 rfl,Za K2 rfl,Za K2 rfl,Za K2 rfl⟩)
   (first|(go_at_call 144;refine (V1 hM.drew p0 p1 p2 p3 p4 p5 c 2 (by omega) (by omega)).mono ?_;rintro e w2 ⟨rfl,M2,d2⟩;have K2:=d2.at (k:=k) (o:=.cells #[.int .i64 p0,.int .i64 p1,.int .i64 p2,.int .i64 p3,.int .i64 p4,.int .i64 p5,.int .i64 c,.int .u64 st,.int .i64 3,.int .u64 ve,.float .f64 va,.int .i64 sp,.bool tn] 287 (0,0)) hk (by simp [hka,hkb])))
  all_goals
   go_wp2_with fail;go_meet;exact ⟨rfl,rfl,M2,K2,(Zr_ _ _).drew.trans (d2.mono (by simp))⟩
 case rest=>
  obtain ⟨rfl,rfl,M3,K3,D3⟩:=hcut;clear r0 r1 r2 r3 r4 r5 r6 r8 hM hk;obtain ⟨w3,rfl⟩:∃ w3,w3=wc:=⟨_,rfl⟩;go_wp2;go_ret2;exact ⟨rfl,M3,K3,D3⟩
theorem rok0_gt (hM:Zi 137 w a b s) (hk:w.heap[k]? =some (.cells #[.int .i64 p0,.int .i64 p1,.int .i64 p2,.int .i64 p3,.int .i64 p4,.int .i64 p5,.int .i64 c,.int .u64 st,.int .i64 0,.int .u64 ve,.float .f64 va,.int .i64 sp,.bool tn] 287 (0,0))) (he:s.cellE p4 c 0=0) (hv:st < s.cellV p4 c 0):
  Calls Tryz.prog 241 #[.pointer (some ⟨k,0,none⟩),.pointer (some ⟨a,0,none⟩)] w λ e w'=>e=.returned (.tuple #[.bool false,.int .i64 0])/\Zi 137 w' a b (s.cellM p4 c 0)/\w'.heap[k]? =some (.cells #[.int .i64 p0,.int .i64 p1,.int .i64 p2,.int .i64 p3,.int .i64 p4,.int .i64 p5,.int .i64 c,.int .u64 st,.int .i64 3,.int .u64 (s.cellV p4 c 0),.float .f64 va,.int .i64 (wrap64 (sp+1)),.bool tn] 287 (0,0))/\Ze [a,b,k] w w':=by
 have He:=Zh_ he;clear he;have Hv:=Zh_ hv;clear hv;have hka:k≠a:=Zp hk hM.hd (by decide);have hkb:k≠b:=Zp hk hM.ws (by decide);obtain ⟨r0,r1,r2,r3,r4,r5,r6⟩:=Zc7g_ hk;have r8:w.cell? ⟨k,8,none⟩=some (.int .i64 0):=Za hk rfl;go_enter func241,ntmps241;go_wp2_with fail;refine (next0 hk).mono ?_;rintro e w1 ⟨rfl,hw1⟩;have hw1':=hw1.symm;subst hw1';go_upto_region 4 with fail
 go_cut [8,9] (λ A C wx=>A=.int .u64 (s.cellV p4 c 0)/\C=.int .i64 (s.cellE p4 c 0)/\Zi 137 wx a b (s.cellM p4 c 0)/\wx.heap[k]? =some (.cells #[.int .i64 p0,.int .i64 p1,.int .i64 p2,.int .i64 p3,.int .i64 p4,.int .i64 p5,.int .i64 c,.int .u64 st,.int .i64 0,.int .u64 ve,.float .f64 va,.int .i64 sp,.bool tn] 287 (0,0))/\Ze [a,b,k] w wx)
 case first=>
  go_region_held3 (λ wx=>wx.cell? ⟨k,0,none⟩=some (.int .i64 p0)/\wx.cell? ⟨k,1,none⟩=some (.int .i64 p1)/\wx.cell? ⟨k,2,none⟩=some (.int .i64 p2)/\wx.cell? ⟨k,3,none⟩=some (.int .i64 p3)/\wx.cell? ⟨k,4,none⟩=some (.int .i64 p4)/\wx.cell? ⟨k,5,none⟩=some (.int .i64 p5)/\wx.cell? ⟨k,6,none⟩=some (.int .i64 c)) (first|exact ⟨r0,r1,r2,r3,r4,r5,r6⟩|exact ⟨Za K2 rfl,Za K2 rfl,Za K2 rfl,Za K2 rfl,Za K2 rfl,Za K2 rfl,Za K2 rfl⟩)
   (first|(go_at_call 144;refine (V1 hM.drew p0 p1 p2 p3 p4 p5 c 0 (by omega) (by omega)).mono ?_;rintro e w2 ⟨rfl,M2,d2⟩;have K2:=d2.at (k:=k) (o:=.cells #[.int .i64 p0,.int .i64 p1,.int .i64 p2,.int .i64 p3,.int .i64 p4,.int .i64 p5,.int .i64 c,.int .u64 st,.int .i64 0,.int .u64 ve,.float .f64 va,.int .i64 sp,.bool tn] 287 (0,0)) hk (by simp [hka,hkb])))
  all_goals
   go_wp2_with fail;go_meet;exact ⟨rfl,rfl,M2,K2,(Zr_ _ _).drew.trans (d2.mono (by simp))⟩
 case rest=>
  obtain ⟨rfl,rfl,M3,K3,D3⟩:=hcut;clear r0 r1 r2 r3 r4 r5 r6 r8 hM hk;obtain ⟨w3,rfl⟩:∃ w3,w3=wc:=⟨_,rfl⟩;rw [He.out];have r11:w3.cell? ⟨k,11,none⟩=some (.int .i64 sp):=Za K3 rfl;have z11:=Zb (i:=11) K3;go_upto_region 8 with fail;have K4:=Zd (i:=11) (.int .i64 (wrap64 (sp+1))) K3;simp only [List.setIfInBounds_toArray,List.set_cons_succ,List.set_cons_zero] at K4;have M4:=M3.other k 11 (.int .i64 (wrap64 (sp+1))) (Ne.symm hka) (Ne.symm hkb);have D4:=D3.setCell ⟨k,11,none⟩ (.int .i64 (wrap64 (sp+1))) (.inl (by simp));clear r11 z11 K3 M3 D3;generalize w3.setCell ⟨k,11,none⟩ (.int .i64 (wrap64 (sp+1)))=w4 at *
  go_wp2_with fail;refine (begin_gt K4 _ Hv.out).mono ?_;rintro e w5 ⟨rfl,K5,d5⟩;have M5:=M4.mod d5 (by simp [Ne.symm hka]) (by simp [Ne.symm hkb]);have D5:Ze [a,b,k] w w5:=D4.trans (d5.mono (by simp));have r8:w5.cell? ⟨k,8,none⟩=some (.int .i64 3):=Za K5 rfl;clear K4 M4 D4 d5 He Hv;go_wp2;go_ret2;exact ⟨rfl,M5,K5,D5⟩
theorem rok0_le (hM:Zi 137 w a b s) (hk:w.heap[k]? =some (.cells #[.int .i64 p0,.int .i64 p1,.int .i64 p2,.int .i64 p3,.int .i64 p4,.int .i64 p5,.int .i64 c,.int .u64 st,.int .i64 0,.int .u64 ve,.float .f64 va,.int .i64 sp,.bool tn] 287 (0,0))) (he:s.cellE p4 c 0=0) (hv:s.cellV p4 c 0<=st):
  Calls Tryz.prog 241 #[.pointer (some ⟨k,0,none⟩),.pointer (some ⟨a,0,none⟩)] w λ e w'=>e=.returned (.tuple #[.bool false,.int .i64 0])/\Zi 137 w' a b (s.cellM p4 c 0)/\w'.heap[k]? =some (.cells #[.int .i64 p0,.int .i64 p1,.int .i64 p2,.int .i64 p3,.int .i64 p4,.int .i64 p5,.int .i64 c,.int .u64 st,.int .i64 1,.int .u64 (s.cellV p4 c 0),.float .f64 va,.int .i64 (wrap64 (sp+1)),.bool tn] 287 (0,0))/\Ze [a,b,k] w w':=by
 have He:=Zh_ he;clear he;have Hv:=Zh_ hv;clear hv;have hka:k≠a:=Zp hk hM.hd (by decide);have hkb:k≠b:=Zp hk hM.ws (by decide);obtain ⟨r0,r1,r2,r3,r4,r5,r6⟩:=Zc7g_ hk;have r8:w.cell? ⟨k,8,none⟩=some (.int .i64 0):=Za hk rfl;go_enter func241,ntmps241;go_wp2_with fail;refine (next0 hk).mono ?_;rintro e w1 ⟨rfl,hw1⟩;have hw1':=hw1.symm;subst hw1';go_upto_region 4 with fail
 go_cut [8,9] (λ A C wx=>A=.int .u64 (s.cellV p4 c 0)/\C=.int .i64 (s.cellE p4 c 0)/\Zi 137 wx a b (s.cellM p4 c 0)/\wx.heap[k]? =some (.cells #[.int .i64 p0,.int .i64 p1,.int .i64 p2,.int .i64 p3,.int .i64 p4,.int .i64 p5,.int .i64 c,.int .u64 st,.int .i64 0,.int .u64 ve,.float .f64 va,.int .i64 sp,.bool tn] 287 (0,0))/\Ze [a,b,k] w wx)
 case first=>
  go_region_held3 (λ wx=>wx.cell? ⟨k,0,none⟩=some (.int .i64 p0)/\wx.cell? ⟨k,1,none⟩=some (.int .i64 p1)/\wx.cell? ⟨k,2,none⟩=some (.int .i64 p2)/\wx.cell? ⟨k,3,none⟩=some (.int .i64 p3)/\wx.cell? ⟨k,4,none⟩=some (.int .i64 p4)/\wx.cell? ⟨k,5,none⟩=some (.int .i64 p5)/\wx.cell? ⟨k,6,none⟩=some (.int .i64 c)) (first|exact ⟨r0,r1,r2,r3,r4,r5,r6⟩|exact ⟨Za K2 rfl,Za K2 rfl,Za K2 rfl,Za K2 rfl,Za K2 rfl,Za K2 rfl,Za K2 rfl⟩)
   (first|(go_at_call 144;refine (V1 hM.drew p0 p1 p2 p3 p4 p5 c 0 (by omega) (by omega)).mono ?_;rintro e w2 ⟨rfl,M2,d2⟩;have K2:=d2.at (k:=k) (o:=.cells #[.int .i64 p0,.int .i64 p1,.int .i64 p2,.int .i64 p3,.int .i64 p4,.int .i64 p5,.int .i64 c,.int .u64 st,.int .i64 0,.int .u64 ve,.float .f64 va,.int .i64 sp,.bool tn] 287 (0,0)) hk (by simp [hka,hkb])))
  all_goals
   go_wp2_with fail;go_meet;exact ⟨rfl,rfl,M2,K2,(Zr_ _ _).drew.trans (d2.mono (by simp))⟩
 case rest=>
  obtain ⟨rfl,rfl,M3,K3,D3⟩:=hcut;clear r0 r1 r2 r3 r4 r5 r6 r8 hM hk;obtain ⟨w3,rfl⟩:∃ w3,w3=wc:=⟨_,rfl⟩;rw [He.out];have r11:w3.cell? ⟨k,11,none⟩=some (.int .i64 sp):=Za K3 rfl;have z11:=Zb (i:=11) K3;go_upto_region 8 with fail;have K4:=Zd (i:=11) (.int .i64 (wrap64 (sp+1))) K3;simp only [List.setIfInBounds_toArray,List.set_cons_succ,List.set_cons_zero] at K4;have M4:=M3.other k 11 (.int .i64 (wrap64 (sp+1))) (Ne.symm hka) (Ne.symm hkb);have D4:=D3.setCell ⟨k,11,none⟩ (.int .i64 (wrap64 (sp+1))) (.inl (by simp));clear r11 z11 K3 M3 D3;generalize w3.setCell ⟨k,11,none⟩ (.int .i64 (wrap64 (sp+1)))=w4 at *
  go_wp2_with fail;refine (begin_le K4 _ Hv.out).mono ?_;rintro e w5 ⟨rfl,K5,d5⟩;have M5:=M4.mod d5 (by simp [Ne.symm hka]) (by simp [Ne.symm hkb]);have D5:Ze [a,b,k] w w5:=D4.trans (d5.mono (by simp));have r8:w5.cell? ⟨k,8,none⟩=some (.int .i64 1):=Za K5 rfl;clear K4 M4 D4 d5 He Hv;go_wp2;go_ret2;exact ⟨rfl,M5,K5,D5⟩
theorem rok1 (hM:Zi 137 w a b s) (hk:w.heap[k]? =some (.cells #[.int .i64 p0,.int .i64 p1,.int .i64 p2,.int .i64 p3,.int .i64 p4,.int .i64 p5,.int .i64 c,.int .u64 st,.int .i64 1,.int .u64 ve,.float .f64 va,.int .i64 sp,.bool tn] 287 (0,0))) (he:s.cellE p4 c 1=0):
  Calls Tryz.prog 241 #[.pointer (some ⟨k,0,none⟩),.pointer (some ⟨a,0,none⟩)] w λ e w'=>e=.returned (.tuple #[.bool false,.int .i64 0])/\Zi 137 w' a b (s.cellM p4 c 1)/\w'.heap[k]? =some (.cells #[.int .i64 p0,.int .i64 p1,.int .i64 p2,.int .i64 p3,.int .i64 p4,.int .i64 p5,.int .i64 c,.int .u64 st,.int .i64 2,.int .u64 ve,.float .f64 (Zt (s.cellV p4 c 1).toNat),.int .i64 (wrap64 (sp+1)),.bool tn] 287 (0,0))/\Ze [a,b,k] w w':=by
 have He:=Zh_ he;clear he;have hka:k≠a:=Zp hk hM.hd (by decide);have hkb:k≠b:=Zp hk hM.ws (by decide);obtain ⟨r0,r1,r2,r3,r4,r5,r6⟩:=Zc7g_ hk;have r8:w.cell? ⟨k,8,none⟩=some (.int .i64 1):=Za hk rfl;go_enter func241,ntmps241;go_wp2_with fail;refine (next1 hk).mono ?_;rintro e w1 ⟨rfl,hw1⟩;have hw1':=hw1.symm;subst hw1';go_upto_region 4 with fail
 go_cut [8,9] (λ A C wx=>A=.int .u64 (s.cellV p4 c 1)/\C=.int .i64 (s.cellE p4 c 1)/\Zi 137 wx a b (s.cellM p4 c 1)/\wx.heap[k]? =some (.cells #[.int .i64 p0,.int .i64 p1,.int .i64 p2,.int .i64 p3,.int .i64 p4,.int .i64 p5,.int .i64 c,.int .u64 st,.int .i64 1,.int .u64 ve,.float .f64 va,.int .i64 sp,.bool tn] 287 (0,0))/\Ze [a,b,k] w wx)
 case first=>
  go_region_held3 (λ wx=>wx.cell? ⟨k,0,none⟩=some (.int .i64 p0)/\wx.cell? ⟨k,1,none⟩=some (.int .i64 p1)/\wx.cell? ⟨k,2,none⟩=some (.int .i64 p2)/\wx.cell? ⟨k,3,none⟩=some (.int .i64 p3)/\wx.cell? ⟨k,4,none⟩=some (.int .i64 p4)/\wx.cell? ⟨k,5,none⟩=some (.int .i64 p5)/\wx.cell? ⟨k,6,none⟩=some (.int .i64 c)) (first|exact ⟨r0,r1,r2,r3,r4,r5,r6⟩|exact ⟨Za K2 rfl,Za K2 rfl,Za K2 rfl,Za K2 rfl,Za K2 rfl,Za K2 rfl,Za K2 rfl⟩)
   (first|(go_at_call 144;refine (V1 hM.drew p0 p1 p2 p3 p4 p5 c 1 (by omega) (by omega)).mono ?_;rintro e w2 ⟨rfl,M2,d2⟩;have K2:=d2.at (k:=k) (o:=.cells #[.int .i64 p0,.int .i64 p1,.int .i64 p2,.int .i64 p3,.int .i64 p4,.int .i64 p5,.int .i64 c,.int .u64 st,.int .i64 1,.int .u64 ve,.float .f64 va,.int .i64 sp,.bool tn] 287 (0,0)) hk (by simp [hka,hkb])))
  all_goals
   go_wp2_with fail;go_meet;exact ⟨rfl,rfl,M2,K2,(Zr_ _ _).drew.trans (d2.mono (by simp))⟩
 case rest=>
  obtain ⟨rfl,rfl,M3,K3,D3⟩:=hcut;clear r0 r1 r2 r3 r4 r5 r6 r8 hM hk;obtain ⟨w3,rfl⟩:∃ w3,w3=wc:=⟨_,rfl⟩;rw [He.out];have r11:w3.cell? ⟨k,11,none⟩=some (.int .i64 sp):=Za K3 rfl;have z11:=Zb (i:=11) K3;go_upto_region 8 with fail;have K4:=Zd (i:=11) (.int .i64 (wrap64 (sp+1))) K3;simp only [List.setIfInBounds_toArray,List.set_cons_succ,List.set_cons_zero] at K4;have M4:=M3.other k 11 (.int .i64 (wrap64 (sp+1))) (Ne.symm hka) (Ne.symm hkb);have D4:=D3.setCell ⟨k,11,none⟩ (.int .i64 (wrap64 (sp+1))) (.inl (by simp));clear r11 z11 K3 M3 D3;generalize w3.setCell ⟨k,11,none⟩ (.int .i64 (wrap64 (sp+1)))=w4 at *
  go_wp2_with fail;refine (take1 K4 _).mono ?_;rintro e w5 ⟨rfl,K5,d5⟩;have M5:=M4.mod d5 (by simp [Ne.symm hka]) (by simp [Ne.symm hkb]);have D5:Ze [a,b,k] w w5:=D4.trans (d5.mono (by simp));have r8:w5.cell? ⟨k,8,none⟩=some (.int .i64 2):=Za K5 rfl;clear K4 M4 D4 d5 He;go_wp2;go_ret2;exact ⟨rfl,M5,K5,D5⟩
theorem rok2_eq (hM:Zi 137 w a b s) (hk:w.heap[k]? =some (.cells #[.int .i64 p0,.int .i64 p1,.int .i64 p2,.int .i64 p3,.int .i64 p4,.int .i64 p5,.int .i64 c,.int .u64 st,.int .i64 2,.int .u64 ve,.float .f64 va,.int .i64 sp,.bool tn] 287 (0,0))) (he:s.cellE p4 c 0=0) (hv:(s.cellV p4 c 0 !=ve)=false):
  Calls Tryz.prog 241 #[.pointer (some ⟨k,0,none⟩),.pointer (some ⟨a,0,none⟩)] w λ e w'=>e=.returned (.tuple #[.bool true,.int .i64 0])/\Zi 137 w' a b (s.cellM p4 c 0)/\w'.heap[k]? =some (.cells #[.int .i64 p0,.int .i64 p1,.int .i64 p2,.int .i64 p3,.int .i64 p4,.int .i64 p5,.int .i64 c,.int .u64 st,.int .i64 4,.int .u64 ve,.float .f64 va,.int .i64 (wrap64 (sp+1)),.bool false] 287 (0,0))/\Ze [a,b,k] w w':=by
 have He:=Zh_ he;clear he;have Hv:=Zh_ hv;clear hv;have hka:k≠a:=Zp hk hM.hd (by decide);have hkb:k≠b:=Zp hk hM.ws (by decide);obtain ⟨r0,r1,r2,r3,r4,r5,r6⟩:=Zc7g_ hk;have r8:w.cell? ⟨k,8,none⟩=some (.int .i64 2):=Za hk rfl;go_enter func241,ntmps241;go_wp2_with fail;refine (next2 hk).mono ?_;rintro e w1 ⟨rfl,hw1⟩;have hw1':=hw1.symm;subst hw1';go_upto_region 4 with fail
 go_cut [8,9] (λ A C wx=>A=.int .u64 (s.cellV p4 c 0)/\C=.int .i64 (s.cellE p4 c 0)/\Zi 137 wx a b (s.cellM p4 c 0)/\wx.heap[k]? =some (.cells #[.int .i64 p0,.int .i64 p1,.int .i64 p2,.int .i64 p3,.int .i64 p4,.int .i64 p5,.int .i64 c,.int .u64 st,.int .i64 2,.int .u64 ve,.float .f64 va,.int .i64 sp,.bool tn] 287 (0,0))/\Ze [a,b,k] w wx)
 case first=>
  go_region_held3 (λ wx=>wx.cell? ⟨k,0,none⟩=some (.int .i64 p0)/\wx.cell? ⟨k,1,none⟩=some (.int .i64 p1)/\wx.cell? ⟨k,2,none⟩=some (.int .i64 p2)/\wx.cell? ⟨k,3,none⟩=some (.int .i64 p3)/\wx.cell? ⟨k,4,none⟩=some (.int .i64 p4)/\wx.cell? ⟨k,5,none⟩=some (.int .i64 p5)/\wx.cell? ⟨k,6,none⟩=some (.int .i64 c)) (first|exact ⟨r0,r1,r2,r3,r4,r5,r6⟩|exact ⟨Za K2 rfl,Za K2 rfl,Za K2 rfl,Za K2 rfl,Za K2 rfl,Za K2 rfl,Za K2 rfl⟩)
   (first|(go_at_call 144;refine (V1 hM.drew p0 p1 p2 p3 p4 p5 c 0 (by omega) (by omega)).mono ?_;rintro e w2 ⟨rfl,M2,d2⟩;have K2:=d2.at (k:=k) (o:=.cells #[.int .i64 p0,.int .i64 p1,.int .i64 p2,.int .i64 p3,.int .i64 p4,.int .i64 p5,.int .i64 c,.int .u64 st,.int .i64 2,.int .u64 ve,.float .f64 va,.int .i64 sp,.bool tn] 287 (0,0)) hk (by simp [hka,hkb])))
  all_goals
   go_wp2_with fail;go_meet;exact ⟨rfl,rfl,M2,K2,(Zr_ _ _).drew.trans (d2.mono (by simp))⟩
 case rest=>
  obtain ⟨rfl,rfl,M3,K3,D3⟩:=hcut;clear r0 r1 r2 r3 r4 r5 r6 r8 hM hk;obtain ⟨w3,rfl⟩:∃ w3,w3=wc:=⟨_,rfl⟩;rw [He.out];have r11:w3.cell? ⟨k,11,none⟩=some (.int .i64 sp):=Za K3 rfl;have z11:=Zb (i:=11) K3;go_upto_region 8 with fail;have K4:=Zd (i:=11) (.int .i64 (wrap64 (sp+1))) K3;simp only [List.setIfInBounds_toArray,List.set_cons_succ,List.set_cons_zero] at K4;have M4:=M3.other k 11 (.int .i64 (wrap64 (sp+1))) (Ne.symm hka) (Ne.symm hkb);have D4:=D3.setCell ⟨k,11,none⟩ (.int .i64 (wrap64 (sp+1))) (.inl (by simp));clear r11 z11 K3 M3 D3;generalize w3.setCell ⟨k,11,none⟩ (.int .i64 (wrap64 (sp+1)))=w4 at *
  go_wp2_with fail;refine (again_eq K4 _ Hv.out).mono ?_;rintro e w5 ⟨rfl,K5,d5⟩;have M5:=M4.mod d5 (by simp [Ne.symm hka]) (by simp [Ne.symm hkb]);have D5:Ze [a,b,k] w w5:=D4.trans (d5.mono (by simp));have r8:w5.cell? ⟨k,8,none⟩=some (.int .i64 4):=Za K5 rfl;clear K4 M4 D4 d5 He Hv;go_wp2;go_ret2;exact ⟨rfl,M5,K5,D5⟩
theorem rok2_ne (hM:Zi 137 w a b s) (hk:w.heap[k]? =some (.cells #[.int .i64 p0,.int .i64 p1,.int .i64 p2,.int .i64 p3,.int .i64 p4,.int .i64 p5,.int .i64 c,.int .u64 st,.int .i64 2,.int .u64 ve,.float .f64 va,.int .i64 sp,.bool tn] 287 (0,0))) (he:s.cellE p4 c 0=0) (hv:(s.cellV p4 c 0 !=ve)=true):
  Calls Tryz.prog 241 #[.pointer (some ⟨k,0,none⟩),.pointer (some ⟨a,0,none⟩)] w λ e w'=>e=.returned (.tuple #[.bool false,.int .i64 0])/\Zi 137 w' a b (s.cellM p4 c 0)/\w'.heap[k]? =some (.cells #[.int .i64 p0,.int .i64 p1,.int .i64 p2,.int .i64 p3,.int .i64 p4,.int .i64 p5,.int .i64 c,.int .u64 st,.int .i64 3,.int .u64 ve,.float .f64 va,.int .i64 (wrap64 (sp+1)),.bool true] 287 (0,0))/\Ze [a,b,k] w w':=by
 have He:=Zh_ he;clear he;have Hv:=Zh_ hv;clear hv;have hka:k≠a:=Zp hk hM.hd (by decide);have hkb:k≠b:=Zp hk hM.ws (by decide);obtain ⟨r0,r1,r2,r3,r4,r5,r6⟩:=Zc7g_ hk;have r8:w.cell? ⟨k,8,none⟩=some (.int .i64 2):=Za hk rfl;go_enter func241,ntmps241;go_wp2_with fail;refine (next2 hk).mono ?_;rintro e w1 ⟨rfl,hw1⟩;have hw1':=hw1.symm;subst hw1';go_upto_region 4 with fail
 go_cut [8,9] (λ A C wx=>A=.int .u64 (s.cellV p4 c 0)/\C=.int .i64 (s.cellE p4 c 0)/\Zi 137 wx a b (s.cellM p4 c 0)/\wx.heap[k]? =some (.cells #[.int .i64 p0,.int .i64 p1,.int .i64 p2,.int .i64 p3,.int .i64 p4,.int .i64 p5,.int .i64 c,.int .u64 st,.int .i64 2,.int .u64 ve,.float .f64 va,.int .i64 sp,.bool tn] 287 (0,0))/\Ze [a,b,k] w wx)
 case first=>
  go_region_held3 (λ wx=>wx.cell? ⟨k,0,none⟩=some (.int .i64 p0)/\wx.cell? ⟨k,1,none⟩=some (.int .i64 p1)/\wx.cell? ⟨k,2,none⟩=some (.int .i64 p2)/\wx.cell? ⟨k,3,none⟩=some (.int .i64 p3)/\wx.cell? ⟨k,4,none⟩=some (.int .i64 p4)/\wx.cell? ⟨k,5,none⟩=some (.int .i64 p5)/\wx.cell? ⟨k,6,none⟩=some (.int .i64 c)) (first|exact ⟨r0,r1,r2,r3,r4,r5,r6⟩|exact ⟨Za K2 rfl,Za K2 rfl,Za K2 rfl,Za K2 rfl,Za K2 rfl,Za K2 rfl,Za K2 rfl⟩)
   (first|(go_at_call 144;refine (V1 hM.drew p0 p1 p2 p3 p4 p5 c 0 (by omega) (by omega)).mono ?_;rintro e w2 ⟨rfl,M2,d2⟩;have K2:=d2.at (k:=k) (o:=.cells #[.int .i64 p0,.int .i64 p1,.int .i64 p2,.int .i64 p3,.int .i64 p4,.int .i64 p5,.int .i64 c,.int .u64 st,.int .i64 2,.int .u64 ve,.float .f64 va,.int .i64 sp,.bool tn] 287 (0,0)) hk (by simp [hka,hkb])))
  all_goals
   go_wp2_with fail;go_meet;exact ⟨rfl,rfl,M2,K2,(Zr_ _ _).drew.trans (d2.mono (by simp))⟩
 case rest=>
  obtain ⟨rfl,rfl,M3,K3,D3⟩:=hcut;clear r0 r1 r2 r3 r4 r5 r6 r8 hM hk;obtain ⟨w3,rfl⟩:∃ w3,w3=wc:=⟨_,rfl⟩;rw [He.out];have r11:w3.cell? ⟨k,11,none⟩=some (.int .i64 sp):=Za K3 rfl;have z11:=Zb (i:=11) K3;go_upto_region 8 with fail;have K4:=Zd (i:=11) (.int .i64 (wrap64 (sp+1))) K3;simp only [List.setIfInBounds_toArray,List.set_cons_succ,List.set_cons_zero] at K4;have M4:=M3.other k 11 (.int .i64 (wrap64 (sp+1))) (Ne.symm hka) (Ne.symm hkb);have D4:=D3.setCell ⟨k,11,none⟩ (.int .i64 (wrap64 (sp+1))) (.inl (by simp));clear r11 z11 K3 M3 D3;generalize w3.setCell ⟨k,11,none⟩ (.int .i64 (wrap64 (sp+1)))=w4 at *
  go_wp2_with fail;refine (again_ne K4 _ Hv.out).mono ?_;rintro e w5 ⟨rfl,K5,d5⟩;have M5:=M4.mod d5 (by simp [Ne.symm hka]) (by simp [Ne.symm hkb]);have D5:Ze [a,b,k] w w5:=D4.trans (d5.mono (by simp));have r8:w5.cell? ⟨k,8,none⟩=some (.int .i64 3):=Za K5 rfl;clear K4 M4 D4 d5 He Hv;go_wp2;go_ret2;exact ⟨rfl,M5,K5,D5⟩
theorem rok3 (hM:Zi 137 w a b s) (hk:w.heap[k]? =some (.cells #[.int .i64 p0,.int .i64 p1,.int .i64 p2,.int .i64 p3,.int .i64 p4,.int .i64 p5,.int .i64 c,.int .u64 st,.int .i64 3,.int .u64 ve,.float .f64 va,.int .i64 sp,.bool tn] 287 (0,0))) (he:s.cellE p4 c 2=0):
  Calls Tryz.prog 241 #[.pointer (some ⟨k,0,none⟩),.pointer (some ⟨a,0,none⟩)] w λ e w'=>e=.returned (.tuple #[.bool true,.int .i64 0])/\Zi 137 w' a b (s.cellM p4 c 2)/\w'.heap[k]? =some (.cells #[.int .i64 p0,.int .i64 p1,.int .i64 p2,.int .i64 p3,.int .i64 p4,.int .i64 p5,.int .i64 c,.int .u64 st,.int .i64 4,.int .u64 ve,.float .f64 (Zt (s.cellV p4 c 2).toNat),.int .i64 (wrap64 (sp+1)),.bool tn] 287 (0,0))/\Ze [a,b,k] w w':=by
 have He:=Zh_ he;clear he;have hka:k≠a:=Zp hk hM.hd (by decide);have hkb:k≠b:=Zp hk hM.ws (by decide);obtain ⟨r0,r1,r2,r3,r4,r5,r6⟩:=Zc7g_ hk;have r8:w.cell? ⟨k,8,none⟩=some (.int .i64 3):=Za hk rfl;go_enter func241,ntmps241;go_wp2_with fail;refine (next3 hk).mono ?_;rintro e w1 ⟨rfl,hw1⟩;have hw1':=hw1.symm;subst hw1';go_upto_region 4 with fail
 go_cut [8,9] (λ A C wx=>A=.int .u64 (s.cellV p4 c 2)/\C=.int .i64 (s.cellE p4 c 2)/\Zi 137 wx a b (s.cellM p4 c 2)/\wx.heap[k]? =some (.cells #[.int .i64 p0,.int .i64 p1,.int .i64 p2,.int .i64 p3,.int .i64 p4,.int .i64 p5,.int .i64 c,.int .u64 st,.int .i64 3,.int .u64 ve,.float .f64 va,.int .i64 sp,.bool tn] 287 (0,0))/\Ze [a,b,k] w wx)
 case first=>
  go_region_held3 (λ wx=>wx.cell? ⟨k,0,none⟩=some (.int .i64 p0)/\wx.cell? ⟨k,1,none⟩=some (.int .i64 p1)/\wx.cell? ⟨k,2,none⟩=some (.int .i64 p2)/\wx.cell? ⟨k,3,none⟩=some (.int .i64 p3)/\wx.cell? ⟨k,4,none⟩=some (.int .i64 p4)/\wx.cell? ⟨k,5,none⟩=some (.int .i64 p5)/\wx.cell? ⟨k,6,none⟩=some (.int .i64 c)) (first|exact ⟨r0,r1,r2,r3,r4,r5,r6⟩|exact ⟨Za K2 rfl,Za K2 rfl,Za K2 rfl,Za K2 rfl,Za K2 rfl,Za K2 rfl,Za K2 rfl⟩)
   (first|(go_at_call 144;refine (V1 hM.drew p0 p1 p2 p3 p4 p5 c 2 (by omega) (by omega)).mono ?_;rintro e w2 ⟨rfl,M2,d2⟩;have K2:=d2.at (k:=k) (o:=.cells #[.int .i64 p0,.int .i64 p1,.int .i64 p2,.int .i64 p3,.int .i64 p4,.int .i64 p5,.int .i64 c,.int .u64 st,.int .i64 3,.int .u64 ve,.float .f64 va,.int .i64 sp,.bool tn] 287 (0,0)) hk (by simp [hka,hkb])))
  all_goals
   go_wp2_with fail;go_meet;exact ⟨rfl,rfl,M2,K2,(Zr_ _ _).drew.trans (d2.mono (by simp))⟩
 case rest=>
  obtain ⟨rfl,rfl,M3,K3,D3⟩:=hcut;clear r0 r1 r2 r3 r4 r5 r6 r8 hM hk;obtain ⟨w3,rfl⟩:∃ w3,w3=wc:=⟨_,rfl⟩;rw [He.out];have r11:w3.cell? ⟨k,11,none⟩=some (.int .i64 sp):=Za K3 rfl;have z11:=Zb (i:=11) K3;go_upto_region 8 with fail;have K4:=Zd (i:=11) (.int .i64 (wrap64 (sp+1))) K3;simp only [List.setIfInBounds_toArray,List.set_cons_succ,List.set_cons_zero] at K4;have M4:=M3.other k 11 (.int .i64 (wrap64 (sp+1))) (Ne.symm hka) (Ne.symm hkb);have D4:=D3.setCell ⟨k,11,none⟩ (.int .i64 (wrap64 (sp+1))) (.inl (by simp));clear r11 z11 K3 M3 D3;generalize w3.setCell ⟨k,11,none⟩ (.int .i64 (wrap64 (sp+1)))=w4 at *
  go_wp2_with fail;refine (end3 K4 _).mono ?_;rintro e w5 ⟨rfl,K5,d5⟩;have M5:=M4.mod d5 (by simp [Ne.symm hka]) (by simp [Ne.symm hkb]);have D5:Ze [a,b,k] w w5:=D4.trans (d5.mono (by simp));have r8:w5.cell? ⟨k,8,none⟩=some (.int .i64 4):=Za K5 rfl;clear K4 M4 D4 d5 He;go_wp2;go_ret2;exact ⟨rfl,M5,K5,D5⟩
end
section
attribute [local go_sem] Zj
variable {a b k:Nat} {s:Zh} {w:World}
structure Y1.Inv (r:Y1):Prop where
 lo:0<=r.pa
 hi:r.pa<=4
theorem Y1.took_inv (r:Y1) (v:Int):(r.took v).Inv:=by
 unfold Y1.took;split
 ·exact ⟨by show 0<=(if r.st < v then (3:Int) else 1);split <;> omega,by show (if r.st < v then (3:Int) else 1)<=4;split <;> omega⟩
 ·split
  ·exact ⟨by show (0:Int)<=2;omega,by show (2:Int)<=4;omega⟩
  ·split
   ·exact ⟨by show 0<=(if v=r.ve then (4:Int) else 3);split <;> omega,by show (if v=r.ve then (4:Int) else 3)<=4;split <;> omega⟩
   ·exact ⟨by show (0:Int)<=4;omega,by show (4:Int)<=4;omega⟩
theorem Rq (hM:Zi 137 w a b s) (r:Y1) (hi:r.Inv) (hk:w.heap[k]? =some (.cells r.arr 287 (0,0))):
  Calls Tryz.prog 241 #[.pointer (some ⟨k,0,none⟩),.pointer (some ⟨a,0,none⟩)] w λ e w'=>e=.returned (.tuple #[.bool (r.over s),.int .i64 (r.err s)])/\Zi 137 w' a b (r.mem s)/\w'.heap[k]? =some (.cells (r.next s).arr 287 (0,0))/\Ze [a,b,k] w w':=by
 obtain ⟨p0,p1,p2,p3,p4,p5,c,st,pa,ve,va,sp,tn⟩:=r;obtain ⟨hlo,hhi⟩:=hi;dsimp only at hlo hhi;have hp:pa=0\/pa=1\/pa=2\/pa=3\/pa=4:=by omega
 rcases hp with rfl|rfl|rfl|rfl|rfl
 ·have e1:(Y1.mk p0 p1 p2 p3 p4 p5 c st 0 ve va sp tn).err s=s.cellE p4 c 0:=rfl;have e4:(Y1.mk p0 p1 p2 p3 p4 p5 c st 0 ve va sp tn).mem s=s.cellM p4 c 0:=rfl;rw [e4]
  by_cases he:s.cellE p4 c 0=0
  ·have e2:(Y1.mk p0 p1 p2 p3 p4 p5 c st 0 ve va sp tn).next s=(Y1.mk p0 p1 p2 p3 p4 p5 c st 0 ve va sp tn).took (s.cellV p4 c 0):=by unfold Y1.next;rw [e1,if_pos he];rfl
   have e3:(Y1.mk p0 p1 p2 p3 p4 p5 c st 0 ve va sp tn).over s=(((Y1.mk p0 p1 p2 p3 p4 p5 c st 0 ve va sp tn).took (s.cellV p4 c 0)).pa==4):=by unfold Y1.over;rw [e1,if_pos he,e2]
   rw [e1,e2,e3,he]
   by_cases hv:st < s.cellV p4 c 0
   ·have e5:(Y1.mk p0 p1 p2 p3 p4 p5 c st 0 ve va sp tn).took (s.cellV p4 c 0)=Y1.mk p0 p1 p2 p3 p4 p5 c st 3 (s.cellV p4 c 0) va (wrap64 (sp+1)) tn:=by unfold Y1.took;simp [hv]
    rw [e5];exact rok0_gt hM hk he hv
   ·have e5:(Y1.mk p0 p1 p2 p3 p4 p5 c st 0 ve va sp tn).took (s.cellV p4 c 0)=Y1.mk p0 p1 p2 p3 p4 p5 c st 1 (s.cellV p4 c 0) va (wrap64 (sp+1)) tn:=by unfold Y1.took;simp [hv]
    rw [e5];exact rok0_le hM hk he (Int.not_lt.1 hv)
  ·have e2:(Y1.mk p0 p1 p2 p3 p4 p5 c st 0 ve va sp tn).next s=(Y1.mk p0 p1 p2 p3 p4 p5 c st 0 ve va sp tn):=by unfold Y1.next;rw [e1,if_neg he]
   have e3:(Y1.mk p0 p1 p2 p3 p4 p5 c st 0 ve va sp tn).over s=false:=by unfold Y1.over;rw [e1,if_neg he]
   rw [e1,e2,e3];exact rbad0 hM hk (by simp [he])
 ·have e1:(Y1.mk p0 p1 p2 p3 p4 p5 c st 1 ve va sp tn).err s=s.cellE p4 c 1:=rfl;have e4:(Y1.mk p0 p1 p2 p3 p4 p5 c st 1 ve va sp tn).mem s=s.cellM p4 c 1:=rfl;rw [e4]
  by_cases he:s.cellE p4 c 1=0
  ·have e2:(Y1.mk p0 p1 p2 p3 p4 p5 c st 1 ve va sp tn).next s=(Y1.mk p0 p1 p2 p3 p4 p5 c st 1 ve va sp tn).took (s.cellV p4 c 1):=by unfold Y1.next;rw [e1,if_pos he];rfl
   have e3:(Y1.mk p0 p1 p2 p3 p4 p5 c st 1 ve va sp tn).over s=(((Y1.mk p0 p1 p2 p3 p4 p5 c st 1 ve va sp tn).took (s.cellV p4 c 1)).pa==4):=by unfold Y1.over;rw [e1,if_pos he,e2]
   rw [e1,e2,e3,he];have e5:(Y1.mk p0 p1 p2 p3 p4 p5 c st 1 ve va sp tn).took (s.cellV p4 c 1)=Y1.mk p0 p1 p2 p3 p4 p5 c st 2 ve (Zt (s.cellV p4 c 1).toNat) (wrap64 (sp+1)) tn:=by unfold Y1.took;simp
   rw [e5];exact rok1 hM hk he
  ·have e2:(Y1.mk p0 p1 p2 p3 p4 p5 c st 1 ve va sp tn).next s=(Y1.mk p0 p1 p2 p3 p4 p5 c st 1 ve va sp tn):=by unfold Y1.next;rw [e1,if_neg he]
   have e3:(Y1.mk p0 p1 p2 p3 p4 p5 c st 1 ve va sp tn).over s=false:=by unfold Y1.over;rw [e1,if_neg he]
   rw [e1,e2,e3];exact rbad1 hM hk (by simp [he])
 ·have e1:(Y1.mk p0 p1 p2 p3 p4 p5 c st 2 ve va sp tn).err s=s.cellE p4 c 0:=rfl;have e4:(Y1.mk p0 p1 p2 p3 p4 p5 c st 2 ve va sp tn).mem s=s.cellM p4 c 0:=rfl;rw [e4]
  by_cases he:s.cellE p4 c 0=0
  ·have e2:(Y1.mk p0 p1 p2 p3 p4 p5 c st 2 ve va sp tn).next s=(Y1.mk p0 p1 p2 p3 p4 p5 c st 2 ve va sp tn).took (s.cellV p4 c 0):=by unfold Y1.next;rw [e1,if_pos he];rfl
   have e3:(Y1.mk p0 p1 p2 p3 p4 p5 c st 2 ve va sp tn).over s=(((Y1.mk p0 p1 p2 p3 p4 p5 c st 2 ve va sp tn).took (s.cellV p4 c 0)).pa==4):=by unfold Y1.over;rw [e1,if_pos he,e2]
   rw [e1,e2,e3,he]
   by_cases hv:s.cellV p4 c 0=ve
   ·have e5:(Y1.mk p0 p1 p2 p3 p4 p5 c st 2 ve va sp tn).took (s.cellV p4 c 0)=Y1.mk p0 p1 p2 p3 p4 p5 c st 4 ve va (wrap64 (sp+1)) false:=by unfold Y1.took;simp [hv]
    rw [e5];exact rok2_eq hM hk he (by simp [hv])
   ·have e5:(Y1.mk p0 p1 p2 p3 p4 p5 c st 2 ve va sp tn).took (s.cellV p4 c 0)=Y1.mk p0 p1 p2 p3 p4 p5 c st 3 ve va (wrap64 (sp+1)) true:=by unfold Y1.took;simp [hv]
    rw [e5];exact rok2_ne hM hk he (by simp [hv])
  ·have e2:(Y1.mk p0 p1 p2 p3 p4 p5 c st 2 ve va sp tn).next s=(Y1.mk p0 p1 p2 p3 p4 p5 c st 2 ve va sp tn):=by unfold Y1.next;rw [e1,if_neg he]
   have e3:(Y1.mk p0 p1 p2 p3 p4 p5 c st 2 ve va sp tn).over s=false:=by unfold Y1.over;rw [e1,if_neg he]
   rw [e1,e2,e3];exact rbad2 hM hk (by simp [he])
 ·have e1:(Y1.mk p0 p1 p2 p3 p4 p5 c st 3 ve va sp tn).err s=s.cellE p4 c 2:=rfl;have e4:(Y1.mk p0 p1 p2 p3 p4 p5 c st 3 ve va sp tn).mem s=s.cellM p4 c 2:=rfl;rw [e4]
  by_cases he:s.cellE p4 c 2=0
  ·have e2:(Y1.mk p0 p1 p2 p3 p4 p5 c st 3 ve va sp tn).next s=(Y1.mk p0 p1 p2 p3 p4 p5 c st 3 ve va sp tn).took (s.cellV p4 c 2):=by unfold Y1.next;rw [e1,if_pos he];rfl
   have e3:(Y1.mk p0 p1 p2 p3 p4 p5 c st 3 ve va sp tn).over s=(((Y1.mk p0 p1 p2 p3 p4 p5 c st 3 ve va sp tn).took (s.cellV p4 c 2)).pa==4):=by unfold Y1.over;rw [e1,if_pos he,e2]
   rw [e1,e2,e3,he];have e5:(Y1.mk p0 p1 p2 p3 p4 p5 c st 3 ve va sp tn).took (s.cellV p4 c 2)=Y1.mk p0 p1 p2 p3 p4 p5 c st 4 ve (Zt (s.cellV p4 c 2).toNat) (wrap64 (sp+1)) tn:=by unfold Y1.took;simp
   rw [e5];exact rok3 hM hk he
  ·have e2:(Y1.mk p0 p1 p2 p3 p4 p5 c st 3 ve va sp tn).next s=(Y1.mk p0 p1 p2 p3 p4 p5 c st 3 ve va sp tn):=by unfold Y1.next;rw [e1,if_neg he]
   have e3:(Y1.mk p0 p1 p2 p3 p4 p5 c st 3 ve va sp tn).over s=false:=by unfold Y1.over;rw [e1,if_neg he]
   rw [e1,e2,e3];exact rbad3 hM hk (by simp [he])
 ·have e1:(Y1.mk p0 p1 p2 p3 p4 p5 c st 4 ve va sp tn).err s=3:=rfl;have e2:(Y1.mk p0 p1 p2 p3 p4 p5 c st 4 ve va sp tn).next s=(Y1.mk p0 p1 p2 p3 p4 p5 c st 4 ve va sp tn):=by unfold Y1.next;rw [e1,if_neg (by decide)]
  have e3:(Y1.mk p0 p1 p2 p3 p4 p5 c st 4 ve va sp tn).over s=false:=by unfold Y1.over;rw [e1,if_neg (by decide)]
  have e4:(Y1.mk p0 p1 p2 p3 p4 p5 c st 4 ve va sp tn).mem s=s:=rfl;rw [e1,e2,e3,e4];exact (rstep4 hk).mono λ e w' ⟨he,hw⟩=>⟨he,hw ▸ hM,hw ▸ hk,hw ▸ Zr_ _ _⟩
def Y1.value (r:Y1):Nat:=if r.pa=4 then r.va else 0
theorem Mo (r:Y1) (hk:w.heap[k]? =some (.cells r.arr 287 (0,0))):Calls Tryz.prog 242 #[.pointer (some ⟨k,0,none⟩)] w λ e w'=>e=.returned (.float .f64 r.value)/\w'=w:=by
 have r8:w.cell? ⟨k,8,none⟩=some (.int .i64 r.pa):=Za hk rfl;have r10:w.cell? ⟨k,10,none⟩=some (.float .f64 r.va):=Za hk rfl
 by_cases h:r.pa=4
 ·have hv:r.value=r.va:=if_pos h;have hb:(r.pa !=4)=false:=by simp [h]
  rw [hv];clear h hv;go_enter func242,ntmps242;go_wp2;go_ret;exact ⟨rfl,rfl⟩
 ·have hv:r.value=0:=if_neg h;have hb:(r.pa !=4)=true:=by simp [h]
  rw [hv];clear h hv;go_enter func242,ntmps242;go_wp2;go_ret;exact ⟨rfl,rfl⟩
end
end Go.Proofs.YtkhonmhnchdpkaaGreat
