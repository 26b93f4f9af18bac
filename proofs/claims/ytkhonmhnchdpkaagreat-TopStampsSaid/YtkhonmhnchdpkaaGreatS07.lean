/- A part of the proof; no condition. -/
import Derived.Test.YtkhonmhnchdpkaaGreatS06
set_option maxRecDepth 100000
set_option maxHeartbeats 40000000
namespace Go.Proofs.YtkhonmhnchdpkaaGreat
open Go.RowKit _root_.Go.Proofs.Tryz
section
attribute [local go_sem] Zi
variable {w w' w0:World} {p p':MP} {s s':Zl}
theorem reckon8 (h:Zg w p s) (n:Int) (x:Nat) (hn:0≤n) (hl:n < 8) (h0:0 < s.nums.length) (hb:s.nums.length≤64):Calls Tryz.prog 167 #[.pointer (some ⟨p.mb,0,none⟩),.agg #[.int .i64 8,.int .i64 n,.float .f64 x]] w (Up w p s ⟨8,n,x⟩):=by
 have D0:Zk (w.alloc (.cells #[.int .i64 8,.int .i64 n,.float .f64 x] 106)) p s (w.alloc (.cells #[.int .i64 8,.int .i64 n,.float .f64 x] 106)):=.same (h.alloc _)
 have hlt:=lt_of_block h.hd
 have hkn:=Zh_ h.new
 rcases (show n=0∨n=1∨n=2∨n=3∨n=4∨n=5∨n=6∨n=7 by omega) with rfl|rfl|rfl|rfl|rfl|rfl|rfl|rfl
 ·have hne:w.heap.size≠p.mb:=by omega
  have c1:(w.alloc (.cells #[.int .i64 8,.int .i64 0,.float .f64 x] 106)).cell? ⟨w.heap.size,1,none⟩=some (.int .i64 0):=Za (Zc _ _) rfl
  have HB:=Zh_ (Zc w (.cells #[.int .i64 8,.int .i64 0,.float .f64 x] 106))
  have z1:Hid (Ze [] w (w.alloc (.cells #[.int .i64 8,.int .i64 0,.float .f64 x] 106))):=Zh_ ((Zr_ _ _).alloc _)
  clear h
  go_enter func167,ntmps167
  go_wp2_with fail
  go_region_held3 (fun wx=>wx.cell? ⟨w.heap.size,1,none⟩=some (.int .i64 0)) (first|exact c1|exact e1|exact Za (Zq _ (D1.res HB.out hkn.out) hne) rfl)
   (first|(go_at_call 164;refine (Xn D0.drew h0 hb).mono ?_;rintro e w2 ⟨rfl,D1⟩;have e1:w2.cell? ⟨w.heap.size,1,none⟩=some (.int .i64 0):=Za (D1.res HB.out hkn.out) rfl;have r:=(D1.cell 15 (u:=.float .f64 (s.pop.locals 0)) (fun _=>rfl)).1;have f:=(D1.cell 15 (u:=.float .f64 (s.pop.locals 0)) (fun _=>rfl)).2))
  all_goals
   go_wp2
   go_end0
   exact ⟨rfl,0,(D1.set1 15 (.float .f64 s.top) {s.pop with locals:=Pp s.locals 0 s.top} (fun _=>rfl) rfl rfl rfl rfl rfl rfl).pre z1.out⟩
 ·have hne:w.heap.size≠p.mb:=by omega
  have c1:(w.alloc (.cells #[.int .i64 8,.int .i64 1,.float .f64 x] 106)).cell? ⟨w.heap.size,1,none⟩=some (.int .i64 1):=Za (Zc _ _) rfl
  have HB:=Zh_ (Zc w (.cells #[.int .i64 8,.int .i64 1,.float .f64 x] 106))
  have z1:Hid (Ze [] w (w.alloc (.cells #[.int .i64 8,.int .i64 1,.float .f64 x] 106))):=Zh_ ((Zr_ _ _).alloc _)
  clear h
  go_enter func167,ntmps167
  go_wp2_with fail
  go_region_held3 (fun wx=>wx.cell? ⟨w.heap.size,1,none⟩=some (.int .i64 1)) (first|exact c1|exact e1|exact Za (Zq _ (D1.res HB.out hkn.out) hne) rfl)
   (first|(go_at_call 164;refine (Xn D0.drew h0 hb).mono ?_;rintro e w2 ⟨rfl,D1⟩;have e1:w2.cell? ⟨w.heap.size,1,none⟩=some (.int .i64 1):=Za (D1.res HB.out hkn.out) rfl;have r:=(D1.cell 16 (u:=.float .f64 (s.pop.locals 1)) (fun _=>rfl)).1;have f:=(D1.cell 16 (u:=.float .f64 (s.pop.locals 1)) (fun _=>rfl)).2))
  all_goals
   go_wp2
   go_end0
   exact ⟨rfl,0,(D1.set1 16 (.float .f64 s.top) {s.pop with locals:=Pp s.locals 1 s.top} (fun _=>rfl) rfl rfl rfl rfl rfl rfl).pre z1.out⟩
 ·have hne:w.heap.size≠p.mb:=by omega
  have c1:(w.alloc (.cells #[.int .i64 8,.int .i64 2,.float .f64 x] 106)).cell? ⟨w.heap.size,1,none⟩=some (.int .i64 2):=Za (Zc _ _) rfl
  have HB:=Zh_ (Zc w (.cells #[.int .i64 8,.int .i64 2,.float .f64 x] 106))
  have z1:Hid (Ze [] w (w.alloc (.cells #[.int .i64 8,.int .i64 2,.float .f64 x] 106))):=Zh_ ((Zr_ _ _).alloc _)
  clear h
  go_enter func167,ntmps167
  go_wp2_with fail
  go_region_held3 (fun wx=>wx.cell? ⟨w.heap.size,1,none⟩=some (.int .i64 2)) (first|exact c1|exact e1|exact Za (Zq _ (D1.res HB.out hkn.out) hne) rfl)
   (first|(go_at_call 164;refine (Xn D0.drew h0 hb).mono ?_;rintro e w2 ⟨rfl,D1⟩;have e1:w2.cell? ⟨w.heap.size,1,none⟩=some (.int .i64 2):=Za (D1.res HB.out hkn.out) rfl;have r:=(D1.cell 17 (u:=.float .f64 (s.pop.locals 2)) (fun _=>rfl)).1;have f:=(D1.cell 17 (u:=.float .f64 (s.pop.locals 2)) (fun _=>rfl)).2))
  all_goals
   go_wp2
   go_end0
   exact ⟨rfl,0,(D1.set1 17 (.float .f64 s.top) {s.pop with locals:=Pp s.locals 2 s.top} (fun _=>rfl) rfl rfl rfl rfl rfl rfl).pre z1.out⟩
 ·have hne:w.heap.size≠p.mb:=by omega
  have c1:(w.alloc (.cells #[.int .i64 8,.int .i64 3,.float .f64 x] 106)).cell? ⟨w.heap.size,1,none⟩=some (.int .i64 3):=Za (Zc _ _) rfl
  have HB:=Zh_ (Zc w (.cells #[.int .i64 8,.int .i64 3,.float .f64 x] 106))
  have z1:Hid (Ze [] w (w.alloc (.cells #[.int .i64 8,.int .i64 3,.float .f64 x] 106))):=Zh_ ((Zr_ _ _).alloc _)
  clear h
  go_enter func167,ntmps167
  go_wp2_with fail
  go_region_held3 (fun wx=>wx.cell? ⟨w.heap.size,1,none⟩=some (.int .i64 3)) (first|exact c1|exact e1|exact Za (Zq _ (D1.res HB.out hkn.out) hne) rfl)
   (first|(go_at_call 164;refine (Xn D0.drew h0 hb).mono ?_;rintro e w2 ⟨rfl,D1⟩;have e1:w2.cell? ⟨w.heap.size,1,none⟩=some (.int .i64 3):=Za (D1.res HB.out hkn.out) rfl;have r:=(D1.cell 18 (u:=.float .f64 (s.pop.locals 3)) (fun _=>rfl)).1;have f:=(D1.cell 18 (u:=.float .f64 (s.pop.locals 3)) (fun _=>rfl)).2))
  all_goals
   go_wp2
   go_end0
   exact ⟨rfl,0,(D1.set1 18 (.float .f64 s.top) {s.pop with locals:=Pp s.locals 3 s.top} (fun _=>rfl) rfl rfl rfl rfl rfl rfl).pre z1.out⟩
 ·have hne:w.heap.size≠p.mb:=by omega
  have c1:(w.alloc (.cells #[.int .i64 8,.int .i64 4,.float .f64 x] 106)).cell? ⟨w.heap.size,1,none⟩=some (.int .i64 4):=Za (Zc _ _) rfl
  have HB:=Zh_ (Zc w (.cells #[.int .i64 8,.int .i64 4,.float .f64 x] 106))
  have z1:Hid (Ze [] w (w.alloc (.cells #[.int .i64 8,.int .i64 4,.float .f64 x] 106))):=Zh_ ((Zr_ _ _).alloc _)
  clear h
  go_enter func167,ntmps167
  go_wp2_with fail
  go_region_held3 (fun wx=>wx.cell? ⟨w.heap.size,1,none⟩=some (.int .i64 4)) (first|exact c1|exact e1|exact Za (Zq _ (D1.res HB.out hkn.out) hne) rfl)
   (first|(go_at_call 164;refine (Xn D0.drew h0 hb).mono ?_;rintro e w2 ⟨rfl,D1⟩;have e1:w2.cell? ⟨w.heap.size,1,none⟩=some (.int .i64 4):=Za (D1.res HB.out hkn.out) rfl;have r:=(D1.cell 19 (u:=.float .f64 (s.pop.locals 4)) (fun _=>rfl)).1;have f:=(D1.cell 19 (u:=.float .f64 (s.pop.locals 4)) (fun _=>rfl)).2))
  all_goals
   go_wp2
   go_end0
   exact ⟨rfl,0,(D1.set1 19 (.float .f64 s.top) {s.pop with locals:=Pp s.locals 4 s.top} (fun _=>rfl) rfl rfl rfl rfl rfl rfl).pre z1.out⟩
 ·have hne:w.heap.size≠p.mb:=by omega
  have c1:(w.alloc (.cells #[.int .i64 8,.int .i64 5,.float .f64 x] 106)).cell? ⟨w.heap.size,1,none⟩=some (.int .i64 5):=Za (Zc _ _) rfl
  have HB:=Zh_ (Zc w (.cells #[.int .i64 8,.int .i64 5,.float .f64 x] 106))
  have z1:Hid (Ze [] w (w.alloc (.cells #[.int .i64 8,.int .i64 5,.float .f64 x] 106))):=Zh_ ((Zr_ _ _).alloc _)
  clear h
  go_enter func167,ntmps167
  go_wp2_with fail
  go_region_held3 (fun wx=>wx.cell? ⟨w.heap.size,1,none⟩=some (.int .i64 5)) (first|exact c1|exact e1|exact Za (Zq _ (D1.res HB.out hkn.out) hne) rfl)
   (first|(go_at_call 164;refine (Xn D0.drew h0 hb).mono ?_;rintro e w2 ⟨rfl,D1⟩;have e1:w2.cell? ⟨w.heap.size,1,none⟩=some (.int .i64 5):=Za (D1.res HB.out hkn.out) rfl;have r:=(D1.cell 20 (u:=.float .f64 (s.pop.locals 5)) (fun _=>rfl)).1;have f:=(D1.cell 20 (u:=.float .f64 (s.pop.locals 5)) (fun _=>rfl)).2))
  all_goals
   go_wp2
   go_end0
   exact ⟨rfl,0,(D1.set1 20 (.float .f64 s.top) {s.pop with locals:=Pp s.locals 5 s.top} (fun _=>rfl) rfl rfl rfl rfl rfl rfl).pre z1.out⟩
 ·have hne:w.heap.size≠p.mb:=by omega
  have c1:(w.alloc (.cells #[.int .i64 8,.int .i64 6,.float .f64 x] 106)).cell? ⟨w.heap.size,1,none⟩=some (.int .i64 6):=Za (Zc _ _) rfl
  have HB:=Zh_ (Zc w (.cells #[.int .i64 8,.int .i64 6,.float .f64 x] 106))
  have z1:Hid (Ze [] w (w.alloc (.cells #[.int .i64 8,.int .i64 6,.float .f64 x] 106))):=Zh_ ((Zr_ _ _).alloc _)
  clear h
  go_enter func167,ntmps167
  go_wp2_with fail
  go_region_held3 (fun wx=>wx.cell? ⟨w.heap.size,1,none⟩=some (.int .i64 6)) (first|exact c1|exact e1|exact Za (Zq _ (D1.res HB.out hkn.out) hne) rfl)
   (first|(go_at_call 164;refine (Xn D0.drew h0 hb).mono ?_;rintro e w2 ⟨rfl,D1⟩;have e1:w2.cell? ⟨w.heap.size,1,none⟩=some (.int .i64 6):=Za (D1.res HB.out hkn.out) rfl;have r:=(D1.cell 21 (u:=.float .f64 (s.pop.locals 6)) (fun _=>rfl)).1;have f:=(D1.cell 21 (u:=.float .f64 (s.pop.locals 6)) (fun _=>rfl)).2))
  all_goals
   go_wp2
   go_end0
   exact ⟨rfl,0,(D1.set1 21 (.float .f64 s.top) {s.pop with locals:=Pp s.locals 6 s.top} (fun _=>rfl) rfl rfl rfl rfl rfl rfl).pre z1.out⟩
 ·have hne:w.heap.size≠p.mb:=by omega
  have c1:(w.alloc (.cells #[.int .i64 8,.int .i64 7,.float .f64 x] 106)).cell? ⟨w.heap.size,1,none⟩=some (.int .i64 7):=Za (Zc _ _) rfl
  have HB:=Zh_ (Zc w (.cells #[.int .i64 8,.int .i64 7,.float .f64 x] 106))
  have z1:Hid (Ze [] w (w.alloc (.cells #[.int .i64 8,.int .i64 7,.float .f64 x] 106))):=Zh_ ((Zr_ _ _).alloc _)
  clear h
  go_enter func167,ntmps167
  go_wp2_with fail
  go_region_held3 (fun wx=>wx.cell? ⟨w.heap.size,1,none⟩=some (.int .i64 7)) (first|exact c1|exact e1|exact Za (Zq _ (D1.res HB.out hkn.out) hne) rfl)
   (first|(go_at_call 164;refine (Xn D0.drew h0 hb).mono ?_;rintro e w2 ⟨rfl,D1⟩;have e1:w2.cell? ⟨w.heap.size,1,none⟩=some (.int .i64 7):=Za (D1.res HB.out hkn.out) rfl;have r:=(D1.cell 22 (u:=.float .f64 (s.pop.locals 7)) (fun _=>rfl)).1;have f:=(D1.cell 22 (u:=.float .f64 (s.pop.locals 7)) (fun _=>rfl)).2))
  all_goals
   go_wp2
   go_end0
   exact ⟨rfl,0,(D1.set1 22 (.float .f64 s.top) {s.pop with locals:=Pp s.locals 7 s.top} (fun _=>rfl) rfl rfl rfl rfl rfl rfl).pre z1.out⟩
theorem reckon9 (h:Zg w p s) (n:Int) (x:Nat) (hn:1≤n) (hl:n≤8) (h0:0 < s.nums.length) (hb:s.nums.length≤64):Calls Tryz.prog 167 #[.pointer (some ⟨p.mb,0,none⟩),.agg #[.int .i64 9,.int .i64 n,.float .f64 x]] w (Up w p s ⟨9,n,x⟩):=by
 have D0:Zk (w.alloc (.cells #[.int .i64 9,.int .i64 n,.float .f64 x] 106)) p s (w.alloc (.cells #[.int .i64 9,.int .i64 n,.float .f64 x] 106)):=.same (h.alloc _)
 have hlt:=lt_of_block h.hd
 have hkn:=Zh_ h.new
 have c1:(w.alloc (.cells #[.int .i64 9,.int .i64 n,.float .f64 x] 106)).cell? ⟨w.heap.size,1,none⟩=some (.int .i64 n):=Za (Zc _ _) rfl
 have HB:=Zh_ (Zc w (.cells #[.int .i64 9,.int .i64 n,.float .f64 x] 106))
 have z1:Hid (Ze [] w (w.alloc (.cells #[.int .i64 9,.int .i64 n,.float .f64 x] 106))):=Zh_ ((Zr_ _ _).alloc _)
 clear h
 go_enter func167,ntmps167
 go_wp2_with fail
 go_region_held3 (fun wx=>wx.cell? ⟨w.heap.size,1,none⟩=some (.int .i64 n)) (first|exact c1|exact e1|exact e2)
  (first
   |(go_at_call 164;refine (Xn D0.drew h0 hb).mono ?_;rintro e w2 ⟨rfl,D1⟩;have e1:w2.cell? ⟨w.heap.size,1,none⟩=some (.int .i64 n):=Za (D1.res HB.out hkn.out) rfl)
   |(go_at_call 179;refine (one_c n hn hl s.top _).mono ?_;rintro e w3 ⟨v,rfl,m3⟩;have D2:=D1.mod0 m3;have e2:w3.cell? ⟨w.heap.size,1,none⟩=some (.int .i64 n):=Za (D2.res HB.out hkn.out) rfl))
 all_goals
  go_wp2_with fail
  refine (Y4 D2 (show s.nums.dropLast.length < 64 by simp;omega) (Zu v)).mono ?_;rintro e w4 ⟨rfl,D3⟩
  go_wp2
  go_end0
  exact ⟨rfl,v,D3.pre z1.out⟩
theorem reckon10 (h:Zg w p s) (n:Int) (x:Nat) (hn:1≤n) (hl:n≤12) (h0:2≤s.nums.length) (hb:s.nums.length≤64):Calls Tryz.prog 167 #[.pointer (some ⟨p.mb,0,none⟩),.agg #[.int .i64 10,.int .i64 n,.float .f64 x]] w (Up w p s ⟨10,n,x⟩):=by
 have D0:Zk (w.alloc (.cells #[.int .i64 10,.int .i64 n,.float .f64 x] 106)) p s (w.alloc (.cells #[.int .i64 10,.int .i64 n,.float .f64 x] 106)):=.same (h.alloc _)
 have hlt:=lt_of_block h.hd
 have hkn:=Zh_ h.new
 have HB:=Zh_ (Zc w (.cells #[.int .i64 10,.int .i64 n,.float .f64 x] 106))
 have z1:Hid (Ze [] w (w.alloc (.cells #[.int .i64 10,.int .i64 n,.float .f64 x] 106))):=Zh_ ((Zr_ _ _).alloc _)
 clear h
 go_enter func167,ntmps167
 go_wp2_with fail
 refine (Xn D0 (show 0 < s.nums.length by omega) (show s.nums.length≤64 by omega)).mono ?_;rintro e w1 ⟨rfl,D1⟩
 go_wp2_with fail
 refine (Xn D1 (show 0 < s.nums.dropLast.length by simp;omega) (show s.nums.dropLast.length≤64 by simp;omega)).mono ?_;rintro e w2 ⟨rfl,D2⟩
 have c1:w2.cell? ⟨w.heap.size,1,none⟩=some (.int .i64 n):=Za (D2.res HB.out hkn.out) rfl
 go_wp2_with fail
 refine (two_c n hn hl s.pop.top s.top _).mono ?_;rintro e w3 ⟨v,rfl,m3⟩
 have D3:=D2.mod0 m3
 go_wp2_with fail
 refine (Y4 D3 (show s.nums.dropLast.dropLast.length < 64 by simp;omega) (Tn n (Zu s.pop.top) (Zu s.top) v)).mono ?_;rintro e w4 ⟨rfl,D4⟩
 go_wp2
 go_end0
 exact ⟨rfl,v,D4.pre z1.out⟩
end
section
attribute [local go_sem] Zi
variable {w w' w0:World} {p p':MP} {s s':Zl}
theorem Zg.drew (h:Zg w p s):Zg w.drew p s:=h.mod ((Zr_ [] w).drew) (by simp)
theorem mpop_x (h:Zg w p s) (hl:0 < s.nums.length) (hb:s.nums.length≤64):Calls Tryz.prog 164 #[.pointer (some ⟨p.mb,0,none⟩)] w fun e w'=>e=.returned (.float .f64 s.top)∧∃ vn,Zg w' {p with vn:=vn} s.pop∧Hb w p w' {p with vn:=vn}:=by
 have r:=(h.cell 23 (u:=.pointer (some ⟨p.nb,0,none⟩)) rfl).1
 have hn:V5 w p.nb p.vn 64 (s.nums.dropLast++[s.top]):=by
  have:=h.nums
  rwa [Nl hl] at this
 go_enter func164,ntmps164
 go_wp2_with fail
 refine (Nn hn (by simp;omega)).mono ?_;rintro e w1 ⟨rfl,v',h1,h2,h3⟩
 go_wp2
 go_ret
 exact ⟨rfl,_,h.setNums h1 (.inl h2) (h3.mono (by simp))⟩
theorem reckon18 (h:Zg w p s) (n:Int) (x:Nat) (h0:0 < s.nums.length) (hb:s.nums.length≤64) (ho:s.out.length≤4096):Calls Tryz.prog 167 #[.pointer (some ⟨p.mb,0,none⟩),.agg #[.int .i64 18,.int .i64 n,.float .f64 x]] w (Up w p s ⟨18,n,x⟩):=by
 have hA:=h.alloc (.cells #[.int .i64 18,.int .i64 n,.float .f64 x] 106)
 have hlt:=lt_of_block h.hd
 obtain ⟨av,cv,hv⟩:=Zo h.out
 have r32:w.cell? ⟨p.mb,32,none⟩=some (.slice av s.out.length cv):=by rw [show Value.slice av s.out.length cv=p.vo from hv.symm];exact (h.cell 32 (u:=p.vo) rfl).1
 obtain ⟨i0,hi0,hz0,hz1,hz2⟩:=info_parts Uh
 clear h
 go_enter func167,ntmps167
 go_wp2_with fail
 go_region_law (first
  |(refine step_append_lies _ rfl (.tmp 137) (.tmp 140) 24 rfl 0 51 i0 (.float .f64 0) 1 8 underlying24 hi0 hz0 hz1 hz2 rfl (by decide) (.slice av s.out.length cv) s.out.length (s.out.map (Value.float .f64)) (by simp [Act.eval]) (hrow.alloc _) ⟨w2.heap.size,0,none⟩ 1 1 [Value.float .f64 s.top] (by simp [Act.eval]) rfl (cell_one_new w2 _ 51) (by intro u hu;simp at hu;subst hu;rfl) (by decide) (by unfold maxLen;omega) (by omega) (Nat.zero_le _) _ rfl ?_;intro g5 cap5 w5 ho5 hg5 hat hlt5;obtain ⟨m5,hon,K5⟩:=grew_o (n:=s.out.length+1) (cap:=cap5) h2.out hv ((Zr_ [] w2).alloc _) hg5 hat;have r32':=Za (i:=32) K5 rfl;have f32':=Zb (i:=32) K5;have HO:=Zh_ ho5;have HON:=Zh_ hon;have HM:=Zh_ m5;clear ho5 hg5 hat hlt5 hon m5 K5)
  |(go_simp;go_at_call 164;refine (mpop_x hA.drew h0 hb).mono ?_;rintro e w2 ⟨rfl,vn,h2',F2⟩;have h2:=Zh_ h2';have q32:w2.cell? ⟨p.mb,32,none⟩=some (.slice av s.out.length cv):=(by rw [show Value.slice av s.out.length cv=p.vo from hv.symm];exact (h2'.cell 32 (u:=p.vo) rfl).1);have hrow:w2.ownsRow 0 51 1 (.slice av s.out.length cv) s.out.length (s.out.map (Value.float .f64)):=(by have:=h2'.out;rw [show ({p with vn:=vn}:MP).vo=Value.slice av s.out.length cv from hv] at this;exact this);have hlt2:p.mb < w2.heap.size:=lt_of_block h2'.hd;clear h2'))
 all_goals
  go_wp2
  go_end0
  obtain ⟨k1,k2⟩:=h2.out.setOut (xs:=s.out++[s.top]) (by rw [List.map_append,List.length_append];exact HO.out) HON.out HM.out
  exact ⟨rfl,0,Zk.pre (⟨_,k1,F2.trans k2⟩:Zk (w.alloc (.cells #[.int .i64 18,.int .i64 n,.float .f64 x] 106)).drew p {s.pop with out:=s.out++[s.top]} _) (((Zr_ _ _).alloc _).drew)⟩
end
section
attribute [local go_sem] Zi
variable {w w' w0:World} {p p':MP} {s s':Zl}
def Fp (w:World) (p:MP) (s:Zl) (i:Xf) (e:Ending) (w':World):Prop:=∃ v,ExP w p s (s.doE v i) e w'
theorem Ns (w:World) (o:Obj):(w.alloc o).heap.size=w.heap.size+1:=by simp
theorem Xa {w1:World} {k:Nat} (RB:w1.heap[k]? =some Ya) (a:Xg):((((w1.setCell ⟨k,0,none⟩ (.int .i64 a.kind)).setCell ⟨k,1,none⟩ (.int .i64 a.cell)).setCell ⟨k,2,none⟩ (.float .f64 a.x)).setCell ⟨k,3,none⟩ (.bool a.first)).heap[k]? =some (.cells #[.int .i64 a.kind,.int .i64 a.cell,.float .f64 a.x,.bool a.first] 152 (0,0)):=
 Zd (i:=3) (.bool a.first) (Zd (i:=2) (.float .f64 a.x) (Zd (i:=1) (.int .i64 a.cell) (Zd (i:=0) (.int .i64 a.kind) RB)))
theorem ask_mod (w1:World) (k:Nat) (a:Xg):Ze [k] w1 ((((w1.setCell ⟨k,0,none⟩ (.int .i64 a.kind)).setCell ⟨k,1,none⟩ (.int .i64 a.cell)).setCell ⟨k,2,none⟩ (.float .f64 a.x)).setCell ⟨k,3,none⟩ (.bool a.first)):=
 ((((Zr_ _ _).setCell _ _ (.inl (by simp))).setCell _ _ (.inl (by simp))).setCell _ _ (.inl (by simp))).setCell _ _ (.inl (by simp))
theorem Y9 {b:Obj} {w1:World} (h:Zg w p s) (D:Zk ((w.alloc b).alloc Ya) p s' w1) (a:Xg):Zk w p s' ((((w1.setCell ⟨w.heap.size+1,0,none⟩ (.int .i64 a.kind)).setCell ⟨w.heap.size+1,1,none⟩ (.int .i64 a.cell)).setCell ⟨w.heap.size+1,2,none⟩ (.float .f64 a.x)).setCell ⟨w.heap.size+1,3,none⟩ (.bool a.first)):=by
 have m:=ask_mod w1 (w.heap.size+1) a
 rw [←Ns w b] at m ⊢
 exact (D.fin (h.alloc b) m).pre ((Zr_ _ _).alloc _)
theorem Y8 {b:Obj} {w1:World} (h:Zg w p s) (D:Zk ((w.alloc b).alloc Ya) p s' w1):w1.heap[w.heap.size+1]? =some Ya:=by
 rw [←Ns w b]
 exact D.res (Zc _ _) (h.alloc b).new
theorem Qj {b:Obj} {w1:World} (h:Zg w p s) (D:Zk ((w.alloc b).alloc Ya) p s' w1):w1.heap[w.heap.size]? =some b:=
 D.res (Zf _ (Zc _ _)) h.new
theorem do16 (h:Zg w p s) (n:Int) (x:Nat) (hc:∀ w1,Zg w1 p s→Calls Tryz.prog 161 #[.pointer (some ⟨p.mb,0,none⟩)] w1 (ExP w1 p s s.readE)):Calls Tryz.prog 143 #[.pointer (some ⟨p.mb,0,none⟩),.agg #[.int .i64 16,.int .i64 n,.float .f64 x]] w (Fp w p s ⟨16,n,x⟩):=by
 have D0:Zk ((w.alloc (.cells #[.int .i64 16,.int .i64 n,.float .f64 x] 106)).alloc Ya) p s ((w.alloc (.cells #[.int .i64 16,.int .i64 n,.float .f64 x] 106)).alloc Ya):=.same ((h.alloc _).alloc _)
 have hlt:=lt_of_block h.hd
 have HH:=Zh_ h
 have hr:=hc _ ((h.alloc (.cells #[.int .i64 16,.int .i64 n,.float .f64 x] 106)).alloc Ya)
 have he:∀ v,s.doE v ⟨16,n,x⟩=s.readE:=fun _=>rfl
 clear hc h
 cases hx:s.readE with
 |error c=>
  rw [hx] at hr
  go_enter func143,ntmps143
  go_wp2_with fail
  refine hr.mono ?_;rintro e w1 ⟨rfl,D1⟩
  have HD:=Zh_ D1
  have HE:=Zh_ he
  have HX:=Zh_ hx
  clear D1 he hx hr D0
  go_wp2
  exact ⟨rfl,0,by rw [HE.out,HX.out];exact ⟨rfl,HD.out.pre (((Zr_ _ _).alloc _).alloc _)⟩⟩
 |ok r=>
  obtain ⟨s',a⟩:=r
  rw [hx] at hr
  go_enter func143,ntmps143
  go_wp2_with fail
  refine hr.mono ?_;rintro e w1 ⟨he1,D1⟩
  have he2:e=.returned (.agg #[.int .i64 a.kind,.int .i64 a.cell,.float .f64 a.x,.bool a.first]):=he1
  subst he2
  have RB:=Y8 HH.out D1
  have HRB:=Zh_ RB
  have g0:w1.cell? ⟨w.heap.size+1,0,none⟩=some (.int .i64 0):=Za RB rfl
  have z0:w1.frozen? ⟨w.heap.size+1,0,none⟩=false:=Zb RB
  have g1:w1.cell? ⟨w.heap.size+1,1,none⟩=some (.int .i64 0):=Za RB rfl
  have z1:w1.frozen? ⟨w.heap.size+1,1,none⟩=false:=Zb RB
  have g2:w1.cell? ⟨w.heap.size+1,2,none⟩=some (.float .f64 0):=Za RB rfl
  have z2:w1.frozen? ⟨w.heap.size+1,2,none⟩=false:=Zb RB
  have g3:w1.cell? ⟨w.heap.size+1,3,none⟩=some (.bool false):=Za RB rfl
  have z3:w1.frozen? ⟨w.heap.size+1,3,none⟩=false:=Zb RB
  have HD:=Zh_ D1
  have HE:=Zh_ he
  have HX:=Zh_ hx
  clear D1 he hx hr RB he1 D0
  go_wp2
  refine bodyPost_ret (v:=(a:Xg).val) (results_cell_row (P:=Tryz.prog) (fn:=Tryz.f143) (p:=4) (ty:=152) rfl _ _ (w.heap.size+1) 152 _ (0,0) _ rfl (Xa HRB.out (a)) underlying152 rfl (by kernel_rfl)) rfl ?_
  exact ⟨0,by rw [HE.out,HX.out];exact ⟨rfl,Y9 HH.out HD.out a⟩⟩
theorem do17 (h:Zg w p s) (n:Int) (x:Nat) (hc:∀ w1,Zg w1 p s→Calls Tryz.prog 162 #[.pointer (some ⟨p.mb,0,none⟩)] w1 (ExP w1 p s s.writeE)):Calls Tryz.prog 143 #[.pointer (some ⟨p.mb,0,none⟩),.agg #[.int .i64 17,.int .i64 n,.float .f64 x]] w (Fp w p s ⟨17,n,x⟩):=by
 have D0:Zk ((w.alloc (.cells #[.int .i64 17,.int .i64 n,.float .f64 x] 106)).alloc Ya) p s ((w.alloc (.cells #[.int .i64 17,.int .i64 n,.float .f64 x] 106)).alloc Ya):=.same ((h.alloc _).alloc _)
 have hlt:=lt_of_block h.hd
 have HH:=Zh_ h
 have hr:=hc _ ((h.alloc (.cells #[.int .i64 17,.int .i64 n,.float .f64 x] 106)).alloc Ya)
 have he:∀ v,s.doE v ⟨17,n,x⟩=s.writeE:=fun _=>rfl
 clear hc h
 cases hx:s.writeE with
 |error c=>
  rw [hx] at hr
  go_enter func143,ntmps143
  go_wp2_with fail
  refine hr.mono ?_;rintro e w1 ⟨rfl,D1⟩
  have HD:=Zh_ D1
  have HE:=Zh_ he
  have HX:=Zh_ hx
  clear D1 he hx hr D0
  go_wp2
  exact ⟨rfl,0,by rw [HE.out,HX.out];exact ⟨rfl,HD.out.pre (((Zr_ _ _).alloc _).alloc _)⟩⟩
 |ok r=>
  obtain ⟨s',a⟩:=r
  rw [hx] at hr
  go_enter func143,ntmps143
  go_wp2_with fail
  refine hr.mono ?_;rintro e w1 ⟨he1,D1⟩
  have he2:e=.returned (.agg #[.int .i64 a.kind,.int .i64 a.cell,.float .f64 a.x,.bool a.first]):=he1
  subst he2
  have RB:=Y8 HH.out D1
  have HRB:=Zh_ RB
  have g0:w1.cell? ⟨w.heap.size+1,0,none⟩=some (.int .i64 0):=Za RB rfl
  have z0:w1.frozen? ⟨w.heap.size+1,0,none⟩=false:=Zb RB
  have g1:w1.cell? ⟨w.heap.size+1,1,none⟩=some (.int .i64 0):=Za RB rfl
  have z1:w1.frozen? ⟨w.heap.size+1,1,none⟩=false:=Zb RB
  have g2:w1.cell? ⟨w.heap.size+1,2,none⟩=some (.float .f64 0):=Za RB rfl
  have z2:w1.frozen? ⟨w.heap.size+1,2,none⟩=false:=Zb RB
  have g3:w1.cell? ⟨w.heap.size+1,3,none⟩=some (.bool false):=Za RB rfl
  have z3:w1.frozen? ⟨w.heap.size+1,3,none⟩=false:=Zb RB
  have HD:=Zh_ D1
  have HE:=Zh_ he
  have HX:=Zh_ hx
  clear D1 he hx hr RB he1 D0
  go_wp2
  refine bodyPost_ret (v:=(a:Xg).val) (results_cell_row (P:=Tryz.prog) (fn:=Tryz.f143) (p:=4) (ty:=152) rfl _ _ (w.heap.size+1) 152 _ (0,0) _ rfl (Xa HRB.out (a)) underlying152 rfl (by kernel_rfl)) rfl ?_
  exact ⟨0,by rw [HE.out,HX.out];exact ⟨rfl,Y9 HH.out HD.out a⟩⟩
theorem do19 (h:Zg w p s) (n:Int) (x:Nat):Calls Tryz.prog 143 #[.pointer (some ⟨p.mb,0,none⟩),.agg #[.int .i64 19,.int .i64 n,.float .f64 x]] w (Fp w p s ⟨19,n,x⟩):=by
 have D0:Zk ((w.alloc (.cells #[.int .i64 19,.int .i64 n,.float .f64 x] 106)).alloc Ya) p s ((w.alloc (.cells #[.int .i64 19,.int .i64 n,.float .f64 x] 106)).alloc Ya):=.same ((h.alloc _).alloc _)
 have hlt:=lt_of_block h.hd
 have HH:=Zh_ h
 clear h
 go_enter func143,ntmps143
 go_wp2_with fail
 refine (Fv D0 2 n 0).mono ?_;rintro e w1 ⟨he1,D1⟩
 have he2:e=.returned (.agg #[.int .i64 4,.int .i64 0,.float .f64 0,.bool false]):=he1
 subst he2
 have RB:=Y8 HH.out D1
 have HRB:=Zh_ RB
 have g0:w1.cell? ⟨w.heap.size+1,0,none⟩=some (.int .i64 0):=Za RB rfl
 have z0:w1.frozen? ⟨w.heap.size+1,0,none⟩=false:=Zb RB
 have g1:w1.cell? ⟨w.heap.size+1,1,none⟩=some (.int .i64 0):=Za RB rfl
 have z1:w1.frozen? ⟨w.heap.size+1,1,none⟩=false:=Zb RB
 have g2:w1.cell? ⟨w.heap.size+1,2,none⟩=some (.float .f64 0):=Za RB rfl
 have z2:w1.frozen? ⟨w.heap.size+1,2,none⟩=false:=Zb RB
 have g3:w1.cell? ⟨w.heap.size+1,3,none⟩=some (.bool false):=Za RB rfl
 have z3:w1.frozen? ⟨w.heap.size+1,3,none⟩=false:=Zb RB
 have HD:=Zh_ D1
 clear D1 RB he1 D0
 go_wp2
 refine bodyPost_ret (v:=(Zy 4:Xg).val) (results_cell_row (P:=Tryz.prog) (fn:=Tryz.f143) (p:=4) (ty:=152) rfl _ _ (w.heap.size+1) 152 _ (0,0) _ rfl (Xa HRB.out (Zy 4)) underlying152 rfl (by kernel_rfl)) rfl ?_
 exact ⟨0,rfl,Y9 HH.out HD.out (Zy 4)⟩
theorem do20 (h:Zg w p s) (n:Int) (x:Nat):Calls Tryz.prog 143 #[.pointer (some ⟨p.mb,0,none⟩),.agg #[.int .i64 20,.int .i64 n,.float .f64 x]] w (Fp w p s ⟨20,n,x⟩):=by
 have D0:Zk ((w.alloc (.cells #[.int .i64 20,.int .i64 n,.float .f64 x] 106)).alloc Ya) p s ((w.alloc (.cells #[.int .i64 20,.int .i64 n,.float .f64 x] 106)).alloc Ya):=.same ((h.alloc _).alloc _)
 have hlt:=lt_of_block h.hd
 have HH:=Zh_ h
 clear h
 go_enter func143,ntmps143
 go_wp2_with fail
 refine (Fv D0 1 0 0).mono ?_;rintro e w1 ⟨he1,D1⟩
 have he2:e=.returned (.agg #[.int .i64 4,.int .i64 0,.float .f64 0,.bool false]):=he1
 subst he2
 have RB:=Y8 HH.out D1
 have HRB:=Zh_ RB
 have g0:w1.cell? ⟨w.heap.size+1,0,none⟩=some (.int .i64 0):=Za RB rfl
 have z0:w1.frozen? ⟨w.heap.size+1,0,none⟩=false:=Zb RB
 have g1:w1.cell? ⟨w.heap.size+1,1,none⟩=some (.int .i64 0):=Za RB rfl
 have z1:w1.frozen? ⟨w.heap.size+1,1,none⟩=false:=Zb RB
 have g2:w1.cell? ⟨w.heap.size+1,2,none⟩=some (.float .f64 0):=Za RB rfl
 have z2:w1.frozen? ⟨w.heap.size+1,2,none⟩=false:=Zb RB
 have g3:w1.cell? ⟨w.heap.size+1,3,none⟩=some (.bool false):=Za RB rfl
 have z3:w1.frozen? ⟨w.heap.size+1,3,none⟩=false:=Zb RB
 have HD:=Zh_ D1
 clear D1 RB he1 D0
 go_wp2
 refine bodyPost_ret (v:=(Zy 4:Xg).val) (results_cell_row (P:=Tryz.prog) (fn:=Tryz.f143) (p:=4) (ty:=152) rfl _ _ (w.heap.size+1) 152 _ (0,0) _ rfl (Xa HRB.out (Zy 4)) underlying152 rfl (by kernel_rfl)) rfl ?_
 exact ⟨0,rfl,Y9 HH.out HD.out (Zy 4)⟩
end
section
attribute [local go_sem] Zi
variable {w w' w0:World} {p p':MP} {s s':Zl}
theorem do11 (h:Zg w p s) (n:Int) (x:Nat):Calls Tryz.prog 143 #[.pointer (some ⟨p.mb,0,none⟩),.agg #[.int .i64 11,.int .i64 n,.float .f64 x]] w (Fp w p s ⟨11,n,x⟩):=by
 have D0:Zk ((w.alloc (.cells #[.int .i64 11,.int .i64 n,.float .f64 x] 106)).alloc Ya) p s ((w.alloc (.cells #[.int .i64 11,.int .i64 n,.float .f64 x] 106)).alloc Ya):=.same ((h.alloc _).alloc _)
 have hlt:=lt_of_block h.hd
 have HH:=Zh_ h
 have r25:=(h.cell 25 (u:=.int .i64 s.place) rfl).1
 have f25:=(h.cell 25 (u:=.int .i64 s.place) rfl).2
 clear h
 go_enter func143,ntmps143
 go_wp2
 have HRB:=Zh_ (heap_alloc2_new (w.setCell ⟨p.mb,25,none⟩ (.int .i64 n)) (.cells #[.int .i64 11,.int .i64 n,.float .f64 x] 106) Ya)
 rw [show (w.setCell ⟨p.mb,25,none⟩ (.int .i64 n)).heap.size=w.heap.size by simp] at HRB
 refine bodyPost_ret (v:=(Zy 0:Xg).val) (results_cell_row (P:=Tryz.prog) (fn:=Tryz.f143) (p:=4) (ty:=152) rfl _ _ (w.heap.size+1) 152 _ (0,0) _ rfl HRB.out underlying152 rfl (by kernel_rfl)) rfl ?_
 exact ⟨0,rfl,(((Zk.same HH.out).set1 25 (.int .i64 n) {s with place:=n} (fun _=>rfl) rfl rfl rfl rfl rfl rfl).alloc _).alloc _⟩
theorem Dq (x:Nat) (w:World):Calls Tryz.prog 163 #[.float .f64 x] w fun e w'=>e=.returned (.bool (Ur x))∧w'=w:=true_c x w
theorem do12t (h:Zg w p s) (h0:0 < s.nums.length) (hb:s.nums.length≤64) (ht:Ur s.top=true) (n:Int) (x:Nat):Calls Tryz.prog 143 #[.pointer (some ⟨p.mb,0,none⟩),.agg #[.int .i64 12,.int .i64 n,.float .f64 x]] w (Fp w p s ⟨12,n,x⟩):=by
 have D0:Zk ((w.alloc (.cells #[.int .i64 12,.int .i64 n,.float .f64 x] 106)).alloc Ya) p s ((w.alloc (.cells #[.int .i64 12,.int .i64 n,.float .f64 x] 106)).alloc Ya):=.same ((h.alloc _).alloc _)
 have hlt:=lt_of_block h.hd
 have HH:=Zh_ h
 have he:∀ v,s.doE v ⟨12,n,x⟩=.ok ({s.pop with place:=n},Zy 0):=fun v=>by
  simp [Zl.doE,ht,Zl.pop]
 have HE:=Zh_ he
 have c0:((w.alloc (.cells #[.int .i64 12,.int .i64 n,.float .f64 x] 106)).alloc Ya).cell? ⟨w.heap.size,0,none⟩=some (.int .i64 12):=Za (Zf _ (Zc _ _)) rfl
 clear h he
 go_enter func143,ntmps143
 go_wp2_with fail
 go_region_held3 (fun wx=>wx.cell? ⟨w.heap.size,0,none⟩=some (.int .i64 12)) (first|exact c0|exact e0)
  (first
   |(go_at_call 164;refine (Xn D0.drew h0 hb).mono ?_;rintro e w2 ⟨rfl,D1⟩;have e0:w2.cell? ⟨w.heap.size,0,none⟩=some (.int .i64 12):=Za (Qj HH.out D1) rfl)
   |(go_at_call 163;refine (Dq _ _).mono ?_;rintro e w3 ⟨rfl,hw3⟩;have hw3':=hw3.symm;subst hw3';rw [ht]))
 all_goals
  have RB:=Y8 HH.out D1
  have HRB:=Zh_ RB
  have g0:w2.cell? ⟨w.heap.size+1,0,none⟩=some (.int .i64 0):=Za RB rfl
  have z0:w2.frozen? ⟨w.heap.size+1,0,none⟩=false:=Zb RB
  have g1:w2.cell? ⟨w.heap.size+1,1,none⟩=some (.int .i64 0):=Za RB rfl
  have z1:w2.frozen? ⟨w.heap.size+1,1,none⟩=false:=Zb RB
  have g2:w2.cell? ⟨w.heap.size+1,2,none⟩=some (.float .f64 0):=Za RB rfl
  have z2:w2.frozen? ⟨w.heap.size+1,2,none⟩=false:=Zb RB
  have g3:w2.cell? ⟨w.heap.size+1,3,none⟩=some (.bool false):=Za RB rfl
  have z3:w2.frozen? ⟨w.heap.size+1,3,none⟩=false:=Zb RB
  have c1:w2.cell? ⟨w.heap.size,1,none⟩=some (.int .i64 n):=Za (Qj HH.out D1) rfl
  have r25:=(D1.cell 25 (u:=.int .i64 s.place) (fun _=>rfl)).1
  have f25:=(D1.cell 25 (u:=.int .i64 s.place) (fun _=>rfl)).2
  have HD:=Zh_ D1
  have hne:w.heap.size+1≠p.mb:=by omega
  clear D1 RB D0
  go_wp2
  have HRB2:=Zh_ (Zq (i:=25) (.int .i64 n) HRB.out hne)
  refine bodyPost_ret (v:=(Zy 0:Xg).val) (results_cell_row (P:=Tryz.prog) (fn:=Tryz.f143) (p:=4) (ty:=152) rfl _ _ (w.heap.size+1) 152 _ (0,0) _ rfl (Xa HRB2.out (Zy 0)) underlying152 rfl (by kernel_rfl)) rfl ?_
  exact ⟨0,by rw [HE.out];exact ⟨rfl,Y9 HH.out (HD.out.set1 25 (.int .i64 n) {s.pop with place:=n} (fun _=>rfl) rfl rfl rfl rfl rfl rfl) (Zy 0)⟩⟩
theorem do12f (h:Zg w p s) (h0:0 < s.nums.length) (hb:s.nums.length≤64) (ht:Ur s.top=false) (n:Int) (x:Nat):Calls Tryz.prog 143 #[.pointer (some ⟨p.mb,0,none⟩),.agg #[.int .i64 12,.int .i64 n,.float .f64 x]] w (Fp w p s ⟨12,n,x⟩):=by
 have D0:Zk ((w.alloc (.cells #[.int .i64 12,.int .i64 n,.float .f64 x] 106)).alloc Ya) p s ((w.alloc (.cells #[.int .i64 12,.int .i64 n,.float .f64 x] 106)).alloc Ya):=.same ((h.alloc _).alloc _)
 have hlt:=lt_of_block h.hd
 have HH:=Zh_ h
 have he:∀ v,s.doE v ⟨12,n,x⟩=.ok ({s.pop with place:=s.place},Zy 0):=fun v=>by
  simp [Zl.doE,ht,Zl.pop]
 have HE:=Zh_ he
 have c0:((w.alloc (.cells #[.int .i64 12,.int .i64 n,.float .f64 x] 106)).alloc Ya).cell? ⟨w.heap.size,0,none⟩=some (.int .i64 12):=Za (Zf _ (Zc _ _)) rfl
 clear h he
 go_enter func143,ntmps143
 go_wp2_with fail
 go_region_held3 (fun wx=>wx.cell? ⟨w.heap.size,0,none⟩=some (.int .i64 12)) (first|exact c0|exact e0)
  (first
   |(go_at_call 164;refine (Xn D0.drew h0 hb).mono ?_;rintro e w2 ⟨rfl,D1⟩;have e0:w2.cell? ⟨w.heap.size,0,none⟩=some (.int .i64 12):=Za (Qj HH.out D1) rfl)
   |(go_at_call 163;refine (Dq _ _).mono ?_;rintro e w3 ⟨rfl,hw3⟩;have hw3':=hw3.symm;subst hw3';rw [ht]))
 all_goals
  have RB:=Y8 HH.out D1
  have HRB:=Zh_ RB
  have g0:w2.cell? ⟨w.heap.size+1,0,none⟩=some (.int .i64 0):=Za RB rfl
  have z0:w2.frozen? ⟨w.heap.size+1,0,none⟩=false:=Zb RB
  have g1:w2.cell? ⟨w.heap.size+1,1,none⟩=some (.int .i64 0):=Za RB rfl
  have z1:w2.frozen? ⟨w.heap.size+1,1,none⟩=false:=Zb RB
  have g2:w2.cell? ⟨w.heap.size+1,2,none⟩=some (.float .f64 0):=Za RB rfl
  have z2:w2.frozen? ⟨w.heap.size+1,2,none⟩=false:=Zb RB
  have g3:w2.cell? ⟨w.heap.size+1,3,none⟩=some (.bool false):=Za RB rfl
  have z3:w2.frozen? ⟨w.heap.size+1,3,none⟩=false:=Zb RB
  have c1:w2.cell? ⟨w.heap.size,1,none⟩=some (.int .i64 n):=Za (Qj HH.out D1) rfl
  have r25:=(D1.cell 25 (u:=.int .i64 s.place) (fun _=>rfl)).1
  have f25:=(D1.cell 25 (u:=.int .i64 s.place) (fun _=>rfl)).2
  have HD:=Zh_ D1
  have hne:w.heap.size+1≠p.mb:=by omega
  clear D1 RB D0
  go_wp2
  refine bodyPost_ret (v:=(Zy 0:Xg).val) (results_cell_row (P:=Tryz.prog) (fn:=Tryz.f143) (p:=4) (ty:=152) rfl _ _ (w.heap.size+1) 152 _ (0,0) _ rfl (Xa HRB.out (Zy 0)) underlying152 rfl (by kernel_rfl)) rfl ?_
  exact ⟨0,by rw [HE.out];exact ⟨rfl,Y9 HH.out HD.out (Zy 0)⟩⟩
theorem do13t (h:Zg w p s) (h0:0 < s.nums.length) (hb:s.nums.length≤64) (ht:Ur s.top=true) (n:Int) (x:Nat):Calls Tryz.prog 143 #[.pointer (some ⟨p.mb,0,none⟩),.agg #[.int .i64 13,.int .i64 n,.float .f64 x]] w (Fp w p s ⟨13,n,x⟩):=by
 have D0:Zk ((w.alloc (.cells #[.int .i64 13,.int .i64 n,.float .f64 x] 106)).alloc Ya) p s ((w.alloc (.cells #[.int .i64 13,.int .i64 n,.float .f64 x] 106)).alloc Ya):=.same ((h.alloc _).alloc _)
 have hlt:=lt_of_block h.hd
 have HH:=Zh_ h
 have he:∀ v,s.doE v ⟨13,n,x⟩=.ok ({s.pop with place:=s.place},Zy 0):=fun v=>by
  simp [Zl.doE,ht,Zl.pop]
 have HE:=Zh_ he
 have c0:((w.alloc (.cells #[.int .i64 13,.int .i64 n,.float .f64 x] 106)).alloc Ya).cell? ⟨w.heap.size,0,none⟩=some (.int .i64 13):=Za (Zf _ (Zc _ _)) rfl
 clear h he
 go_enter func143,ntmps143
 go_wp2_with fail
 go_region_held3 (fun wx=>wx.cell? ⟨w.heap.size,0,none⟩=some (.int .i64 13)) (first|exact c0|exact e0)
  (first
   |(go_at_call 164;refine (Xn D0.drew h0 hb).mono ?_;rintro e w2 ⟨rfl,D1⟩;have e0:w2.cell? ⟨w.heap.size,0,none⟩=some (.int .i64 13):=Za (Qj HH.out D1) rfl)
   |(go_at_call 163;refine (Dq _ _).mono ?_;rintro e w3 ⟨rfl,hw3⟩;have hw3':=hw3.symm;subst hw3';rw [ht]))
 all_goals
  have RB:=Y8 HH.out D1
  have HRB:=Zh_ RB
  have g0:w2.cell? ⟨w.heap.size+1,0,none⟩=some (.int .i64 0):=Za RB rfl
  have z0:w2.frozen? ⟨w.heap.size+1,0,none⟩=false:=Zb RB
  have g1:w2.cell? ⟨w.heap.size+1,1,none⟩=some (.int .i64 0):=Za RB rfl
  have z1:w2.frozen? ⟨w.heap.size+1,1,none⟩=false:=Zb RB
  have g2:w2.cell? ⟨w.heap.size+1,2,none⟩=some (.float .f64 0):=Za RB rfl
  have z2:w2.frozen? ⟨w.heap.size+1,2,none⟩=false:=Zb RB
  have g3:w2.cell? ⟨w.heap.size+1,3,none⟩=some (.bool false):=Za RB rfl
  have z3:w2.frozen? ⟨w.heap.size+1,3,none⟩=false:=Zb RB
  have c1:w2.cell? ⟨w.heap.size,1,none⟩=some (.int .i64 n):=Za (Qj HH.out D1) rfl
  have r25:=(D1.cell 25 (u:=.int .i64 s.place) (fun _=>rfl)).1
  have f25:=(D1.cell 25 (u:=.int .i64 s.place) (fun _=>rfl)).2
  have HD:=Zh_ D1
  have hne:w.heap.size+1≠p.mb:=by omega
  clear D1 RB D0
  go_wp2
  refine bodyPost_ret (v:=(Zy 0:Xg).val) (results_cell_row (P:=Tryz.prog) (fn:=Tryz.f143) (p:=4) (ty:=152) rfl _ _ (w.heap.size+1) 152 _ (0,0) _ rfl (Xa HRB.out (Zy 0)) underlying152 rfl (by kernel_rfl)) rfl ?_
  exact ⟨0,by rw [HE.out];exact ⟨rfl,Y9 HH.out HD.out (Zy 0)⟩⟩
theorem do13f (h:Zg w p s) (h0:0 < s.nums.length) (hb:s.nums.length≤64) (ht:Ur s.top=false) (n:Int) (x:Nat):Calls Tryz.prog 143 #[.pointer (some ⟨p.mb,0,none⟩),.agg #[.int .i64 13,.int .i64 n,.float .f64 x]] w (Fp w p s ⟨13,n,x⟩):=by
 have D0:Zk ((w.alloc (.cells #[.int .i64 13,.int .i64 n,.float .f64 x] 106)).alloc Ya) p s ((w.alloc (.cells #[.int .i64 13,.int .i64 n,.float .f64 x] 106)).alloc Ya):=.same ((h.alloc _).alloc _)
 have hlt:=lt_of_block h.hd
 have HH:=Zh_ h
 have he:∀ v,s.doE v ⟨13,n,x⟩=.ok ({s.pop with place:=n},Zy 0):=fun v=>by
  simp [Zl.doE,ht,Zl.pop]
 have HE:=Zh_ he
 have c0:((w.alloc (.cells #[.int .i64 13,.int .i64 n,.float .f64 x] 106)).alloc Ya).cell? ⟨w.heap.size,0,none⟩=some (.int .i64 13):=Za (Zf _ (Zc _ _)) rfl
 clear h he
 go_enter func143,ntmps143
 go_wp2_with fail
 go_region_held3 (fun wx=>wx.cell? ⟨w.heap.size,0,none⟩=some (.int .i64 13)) (first|exact c0|exact e0)
  (first
   |(go_at_call 164;refine (Xn D0.drew h0 hb).mono ?_;rintro e w2 ⟨rfl,D1⟩;have e0:w2.cell? ⟨w.heap.size,0,none⟩=some (.int .i64 13):=Za (Qj HH.out D1) rfl)
   |(go_at_call 163;refine (Dq _ _).mono ?_;rintro e w3 ⟨rfl,hw3⟩;have hw3':=hw3.symm;subst hw3';rw [ht]))
 all_goals
  have RB:=Y8 HH.out D1
  have HRB:=Zh_ RB
  have g0:w2.cell? ⟨w.heap.size+1,0,none⟩=some (.int .i64 0):=Za RB rfl
  have z0:w2.frozen? ⟨w.heap.size+1,0,none⟩=false:=Zb RB
  have g1:w2.cell? ⟨w.heap.size+1,1,none⟩=some (.int .i64 0):=Za RB rfl
  have z1:w2.frozen? ⟨w.heap.size+1,1,none⟩=false:=Zb RB
  have g2:w2.cell? ⟨w.heap.size+1,2,none⟩=some (.float .f64 0):=Za RB rfl
  have z2:w2.frozen? ⟨w.heap.size+1,2,none⟩=false:=Zb RB
  have g3:w2.cell? ⟨w.heap.size+1,3,none⟩=some (.bool false):=Za RB rfl
  have z3:w2.frozen? ⟨w.heap.size+1,3,none⟩=false:=Zb RB
  have c1:w2.cell? ⟨w.heap.size,1,none⟩=some (.int .i64 n):=Za (Qj HH.out D1) rfl
  have r25:=(D1.cell 25 (u:=.int .i64 s.place) (fun _=>rfl)).1
  have f25:=(D1.cell 25 (u:=.int .i64 s.place) (fun _=>rfl)).2
  have HD:=Zh_ D1
  have hne:w.heap.size+1≠p.mb:=by omega
  clear D1 RB D0
  go_wp2
  have HRB2:=Zh_ (Zq (i:=25) (.int .i64 n) HRB.out hne)
  refine bodyPost_ret (v:=(Zy 0:Xg).val) (results_cell_row (P:=Tryz.prog) (fn:=Tryz.f143) (p:=4) (ty:=152) rfl _ _ (w.heap.size+1) 152 _ (0,0) _ rfl (Xa HRB2.out (Zy 0)) underlying152 rfl (by kernel_rfl)) rfl ?_
  exact ⟨0,by rw [HE.out];exact ⟨rfl,Y9 HH.out (HD.out.set1 25 (.int .i64 n) {s.pop with place:=n} (fun _=>rfl) rfl rfl rfl rfl rfl rfl) (Zy 0)⟩⟩
end
section
attribute [local go_sem] Zi
variable {w w' w0:World} {p p':MP} {s s':Zl}
theorem do14 (h:Zg w p s) (hk:s.calls.length < 16) (n:Int) (x:Nat):Calls Tryz.prog 143 #[.pointer (some ⟨p.mb,0,none⟩),.agg #[.int .i64 14,.int .i64 n,.float .f64 x]] w (Fp w p s ⟨14,n,x⟩):=by
 have hA:Zg ((w.alloc (.cells #[.int .i64 14,.int .i64 n,.float .f64 x] 106)).alloc (.cells #[.int .i64 0,.int .i64 0,.float .f64 0,.bool false] 152)) p s:=(h.alloc _).alloc _
 have hlt:=lt_of_block h.hd
 have HH:=Zh_ h
 have HE:=Zh_ (show ∀ v,s.doE v ⟨14,n,x⟩=.ok ({s with calls:=s.calls++[s.place],place:=n},Zy 0) from fun _=>rfl)
 have r24:((w.alloc (.cells #[.int .i64 14,.int .i64 n,.float .f64 x] 106)).alloc (.cells #[.int .i64 0,.int .i64 0,.float .f64 0,.bool false] 152)).cell? ⟨p.mb,24,none⟩=some (.pointer (some ⟨p.kb,0,none⟩)):=(hA.cell 24 rfl).1
 have r25:((w.alloc (.cells #[.int .i64 14,.int .i64 n,.float .f64 x] 106)).alloc (.cells #[.int .i64 0,.int .i64 0,.float .f64 0,.bool false] 152)).cell? ⟨p.mb,25,none⟩=some (.int .i64 s.place):=(hA.cell 25 rfl).1
 clear h
 go_enter func143,ntmps143
 go_wp2_with fail
 generalize hwa:(w.alloc (.cells #[.int .i64 14,.int .i64 n,.float .f64 x] 106)).alloc (.cells #[.int .i64 0,.int .i64 0,.float .f64 0,.bool false] 152)=wa at *
 have HW:=Zh_ hwa
 clear hwa
 go_still_tail 8,(by kernel_rfl)
 have hB:Zg wa.drew p s:=hA.mod ((Zr_ [] _).drew) (by simp)
 go_wp2_with fail
 refine (Sg hB.calls (by omega) (by omega) s.place).mono ?_;rintro e w2 ⟨rfl,v',k1,k2,k3⟩
 obtain ⟨k4,k5⟩:=hB.setCalls k1 k2 k3
 have D1:Zk wa p {s with calls:=s.calls++[s.place]} w2:=Zk.pre ⟨_,k4,k5⟩ ((Zr_ _ _).drew)
 rw [←HW.out] at D1
 clear hA hB r24 r25 k1 k2 k3 k4 k5
 have RB:=Y8 HH.out D1
 have HRB:=Zh_ RB
 have g0:w2.cell? ⟨w.heap.size+1,0,none⟩=some (.int .i64 0):=Za RB rfl
 have z0:w2.frozen? ⟨w.heap.size+1,0,none⟩=false:=Zb RB
 have g1:w2.cell? ⟨w.heap.size+1,1,none⟩=some (.int .i64 0):=Za RB rfl
 have z1:w2.frozen? ⟨w.heap.size+1,1,none⟩=false:=Zb RB
 have g2:w2.cell? ⟨w.heap.size+1,2,none⟩=some (.float .f64 0):=Za RB rfl
 have z2:w2.frozen? ⟨w.heap.size+1,2,none⟩=false:=Zb RB
 have g3:w2.cell? ⟨w.heap.size+1,3,none⟩=some (.bool false):=Za RB rfl
 have z3:w2.frozen? ⟨w.heap.size+1,3,none⟩=false:=Zb RB
 have c1:w2.cell? ⟨w.heap.size,1,none⟩=some (.int .i64 n):=Za (Qj HH.out D1) rfl
 have r25:=(D1.cell 25 (u:=.int .i64 s.place) (fun _=>rfl)).1
 have f25:=(D1.cell 25 (u:=.int .i64 s.place) (fun _=>rfl)).2
 have HD:=Zh_ D1
 have hne:w.heap.size+1≠p.mb:=by omega
 clear D1 RB
 go_wp2
 have HRB2:=Zh_ (Zq (i:=25) (.int .i64 n) HRB.out hne)
 refine bodyPost_ret (v:=(Zy 0:Xg).val) (results_cell_row (P:=Tryz.prog) (fn:=Tryz.f143) (p:=4) (ty:=152) rfl _ _ (w.heap.size+1) 152 _ (0,0) _ rfl (Xa HRB2.out (Zy 0)) underlying152 rfl (by kernel_rfl)) rfl ?_
 exact ⟨0,by rw [HE.out];exact ⟨rfl,Y9 HH.out (HD.out.set1 25 (.int .i64 n) {s with calls:=s.calls++[s.place],place:=n} (fun _=>rfl) rfl rfl rfl rfl rfl rfl) (Zy 0)⟩⟩
theorem do15n (h:Zg w p s) (hk:s.calls=[]) (n:Int) (x:Nat):Calls Tryz.prog 143 #[.pointer (some ⟨p.mb,0,none⟩),.agg #[.int .i64 15,.int .i64 n,.float .f64 x]] w (Fp w p s ⟨15,n,x⟩):=by
 have D0:Zk ((w.alloc (.cells #[.int .i64 15,.int .i64 n,.float .f64 x] 106)).alloc Ya) p s ((w.alloc (.cells #[.int .i64 15,.int .i64 n,.float .f64 x] 106)).alloc Ya):=.same ((h.alloc _).alloc _)
 have hlt:=lt_of_block h.hd
 have HH:=Zh_ h
 have hA:=(h.alloc (.cells #[.int .i64 15,.int .i64 n,.float .f64 x] 106)).alloc Ya
 have HE:=Zh_ (show ∀ v,s.doE v ⟨15,n,x⟩=.ok (s.ends 1 0 0,Zy 4) from fun _=>by simp [Zl.doE,hk])
 have r24:=(h.cell 24 (u:=.pointer (some ⟨p.kb,0,none⟩)) rfl).1
 have hc:=hA.calls
 rw [hk] at hc
 clear h hk
 go_enter func143,ntmps143
 go_wp2_with fail
 refine (Si hc).mono ?_;rintro e w1 ⟨rfl,hw1⟩
 have hw1':=hw1.symm
 subst hw1'
 clear hc hA r24
 go_wp2_with fail
 refine (Fv D0 1 0 0).mono ?_;rintro e w1 ⟨he1,D1⟩
 have he2:e=.returned (.agg #[.int .i64 4,.int .i64 0,.float .f64 0,.bool false]):=he1
 subst he2
 have RB:=Y8 HH.out D1
 have HRB:=Zh_ RB
 have g0:w1.cell? ⟨w.heap.size+1,0,none⟩=some (.int .i64 0):=Za RB rfl
 have z0:w1.frozen? ⟨w.heap.size+1,0,none⟩=false:=Zb RB
 have g1:w1.cell? ⟨w.heap.size+1,1,none⟩=some (.int .i64 0):=Za RB rfl
 have z1:w1.frozen? ⟨w.heap.size+1,1,none⟩=false:=Zb RB
 have g2:w1.cell? ⟨w.heap.size+1,2,none⟩=some (.float .f64 0):=Za RB rfl
 have z2:w1.frozen? ⟨w.heap.size+1,2,none⟩=false:=Zb RB
 have g3:w1.cell? ⟨w.heap.size+1,3,none⟩=some (.bool false):=Za RB rfl
 have z3:w1.frozen? ⟨w.heap.size+1,3,none⟩=false:=Zb RB
 have HD:=Zh_ D1
 clear D1 RB he1 D0
 go_wp2
 refine bodyPost_ret (v:=(Zy 4:Xg).val) (results_cell_row (P:=Tryz.prog) (fn:=Tryz.f143) (p:=4) (ty:=152) rfl _ _ (w.heap.size+1) 152 _ (0,0) _ rfl (Xa HRB.out (Zy 4)) underlying152 rfl (by kernel_rfl)) rfl ?_
 exact ⟨0,by rw [HE.out];exact ⟨rfl,Y9 HH.out HD.out (Zy 4)⟩⟩
theorem do15 (h:Zg w p s) (l:List Int) (c:Int) (hk:s.calls=l++[c]) (hl:s.calls.length≤16) (n:Int) (x:Nat):Calls Tryz.prog 143 #[.pointer (some ⟨p.mb,0,none⟩),.agg #[.int .i64 15,.int .i64 n,.float .f64 x]] w (Fp w p s ⟨15,n,x⟩):=by
 have D0:Zk ((w.alloc (.cells #[.int .i64 15,.int .i64 n,.float .f64 x] 106)).alloc Ya) p s ((w.alloc (.cells #[.int .i64 15,.int .i64 n,.float .f64 x] 106)).alloc Ya):=.same ((h.alloc _).alloc _)
 have hlt:=lt_of_block h.hd
 have HH:=Zh_ h
 have hA:=(h.alloc (.cells #[.int .i64 15,.int .i64 n,.float .f64 x] 106)).alloc Ya
 have HE:=Zh_ (show ∀ v,s.doE v ⟨15,n,x⟩=.ok ({s with calls:=s.calls.dropLast,place:=c},Zy 0) from fun _=>by simp [Zl.doE,hk])
 have r24:=(h.cell 24 (u:=.pointer (some ⟨p.kb,0,none⟩)) rfl).1
 have hc:=hA.calls
 have hd:s.calls.dropLast=l:=by rw [hk];simp
 have hll:l.length≤65535:=by have:=congrArg List.length hk;simp at this;omega
 rw [hk] at hc
 have HA:=Zh_ hA
 have HDD:=Zh_ hd
 clear h hk hA hd
 go_enter func143,ntmps143
 go_wp2_with fail
 refine (stk_popI hc hll).mono ?_;rintro e w2 ⟨rfl,v',k1,k2,k3⟩
 obtain ⟨k4,k5⟩:=HA.out.setCalls k1 (.inl k2) (k3.mono (by simp))
 have D1:Zk ((w.alloc (.cells #[.int .i64 15,.int .i64 n,.float .f64 x] 106)).alloc Ya) p {s with calls:=l} w2:=⟨_,k4,k5⟩
 clear hc r24 k1 k2 k3 k4 k5 D0
 have RB:=Y8 HH.out D1
 have HRB:=Zh_ RB
 have g0:w2.cell? ⟨w.heap.size+1,0,none⟩=some (.int .i64 0):=Za RB rfl
 have z0:w2.frozen? ⟨w.heap.size+1,0,none⟩=false:=Zb RB
 have g1:w2.cell? ⟨w.heap.size+1,1,none⟩=some (.int .i64 0):=Za RB rfl
 have z1:w2.frozen? ⟨w.heap.size+1,1,none⟩=false:=Zb RB
 have g2:w2.cell? ⟨w.heap.size+1,2,none⟩=some (.float .f64 0):=Za RB rfl
 have z2:w2.frozen? ⟨w.heap.size+1,2,none⟩=false:=Zb RB
 have g3:w2.cell? ⟨w.heap.size+1,3,none⟩=some (.bool false):=Za RB rfl
 have z3:w2.frozen? ⟨w.heap.size+1,3,none⟩=false:=Zb RB
 have c1:w2.cell? ⟨w.heap.size,1,none⟩=some (.int .i64 n):=Za (Qj HH.out D1) rfl
 have r25:=(D1.cell 25 (u:=.int .i64 s.place) (fun _=>rfl)).1
 have f25:=(D1.cell 25 (u:=.int .i64 s.place) (fun _=>rfl)).2
 have HD:=Zh_ D1
 have hne:w.heap.size+1≠p.mb:=by omega
 clear D1 RB
 go_wp2
 have HRB2:=Zh_ (Zq (i:=25) (.int .i64 c) HRB.out hne)
 refine bodyPost_ret (v:=(Zy 0:Xg).val) (results_cell_row (P:=Tryz.prog) (fn:=Tryz.f143) (p:=4) (ty:=152) rfl _ _ (w.heap.size+1) 152 _ (0,0) _ rfl (Xa HRB2.out (Zy 0)) underlying152 rfl (by kernel_rfl)) rfl ?_
 exact ⟨0,by rw [HE.out,HDD.out];exact ⟨rfl,Y9 HH.out (HD.out.set1 25 (.int .i64 c) {s with calls:=l,place:=c} (fun _=>rfl) rfl rfl rfl rfl rfl rfl) (Zy 0)⟩⟩
end
end Go.Proofs.YtkhonmhnchdpkaaGreat
