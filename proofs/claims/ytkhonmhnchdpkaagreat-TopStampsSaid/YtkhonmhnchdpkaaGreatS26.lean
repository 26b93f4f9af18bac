/- A part of the proof; no condition. -/
import Derived.Test.YtkhonmhnchdpkaaGreatS24
import Derived.Test.YtkhonmhnchdpkaaGreatS25
set_option maxRecDepth 100000
set_option maxHeartbeats 40000000
namespace Go.Proofs.YtkhonmhnchdpkaaGreat
open Go.RowKit _root_.Go.Proofs.Tryz
section
attribute [local go_sem] Zi
def Dp (n0:Nat) (q:WP) (x:Z5):Nat→Value→World→Prop
 |0,v,_=>v=.pointer (some ⟨q.k,0,none⟩)
 |1,v,_=>v=.pointer (some ⟨q.k,0,none⟩)
 |2,v,_=>v=.pointer (some ⟨q.k,9,none⟩)
 |3,v,_=>v=.int .i64 x.tag
 |4,v,_=>v=.pointer (some ⟨q.k,0,none⟩)
 |5,v,_=>v=.pointer (some ⟨q.k,0,none⟩)
 |6,v,_=>v=.pointer (some ⟨q.k,10,none⟩)
 |7,v,_=>v=q.va
 |8,v,w=>Z8 n0 51 1 x.args.length (x.args.map (Value.float .f64)) v w
 |9,v,_=>v=.pointer (some ⟨q.k,0,none⟩)
 |10,v,_=>v=.pointer (some ⟨q.k,0,none⟩)
 |11,v,_=>v=.pointer (some ⟨q.k,15,none⟩)
 |12,v,_=>v=.int .i64 x.number
 |13,v,_=>v=.pointer (some ⟨q.k,0,none⟩)
 |14,v,_=>v=.pointer (some ⟨q.k,0,none⟩)
 |15,v,_=>v=.pointer (some ⟨q.k,7,none⟩)
 |16,v,_=>v=.pointer (some ⟨q.p.mb,0,none⟩)
 |17,v,w=>Z8 n0 53 2 x.m.reads.length (Yh x.m.reads) v w
 |18,v,_=>v=.pointer (some ⟨q.k,0,none⟩)
 |19,v,_=>v=.pointer (some ⟨q.k,0,none⟩)
 |20,v,_=>v=.pointer (some ⟨q.k,7,none⟩)
 |21,v,_=>v=.pointer (some ⟨q.p.mb,0,none⟩)
 |22,v,w=>Z8 n0 53 2 x.m.buf.order.length (Yh x.m.buf.all) v w
 |23,v,_=>v=.pointer (some ⟨q.k,0,none⟩)
 |24,v,_=>v=.pointer (some ⟨q.k,0,none⟩)
 |25,v,_=>v=.pointer (some ⟨q.k,7,none⟩)
 |26,v,_=>v=.pointer (some ⟨q.p.mb,0,none⟩)
 |27,v,w=>Z8 n0 51 1 x.m.out.length (x.m.out.map (Value.float .f64)) v w
 |28,v,_=>v=.pointer (some ⟨q.k,0,none⟩)
 |29,v,_=>v=.pointer (some ⟨q.k,0,none⟩)
 |30,v,_=>v=.pointer (some ⟨q.k,12,none⟩)
 |31,v,_=>v=.int .i64 q.st
 |32,v,w=>Jo n0 x.tag (-1) x.number q.st x.args x.m v w
 |33,v,w=>Qw n0 v w
 |_,_,_=>True
theorem R6 (n0:Nat) (q:WP) (x:Z5) (i:Nat) (v:Value) (w w':World) (h:Dp n0 q x i v w) (m:Ze [] w w'):Dp n0 q x i v w':=by
 match i,h with
 |0,h=>exact h
 |1,h=>exact h
 |2,h=>exact h
 |3,h=>exact h
 |4,h=>exact h
 |5,h=>exact h
 |6,h=>exact h
 |7,h=>exact h
 |8,h=>exact Z8.mod h m
 |9,h=>exact h
 |10,h=>exact h
 |11,h=>exact h
 |12,h=>exact h
 |13,h=>exact h
 |14,h=>exact h
 |15,h=>exact h
 |16,h=>exact h
 |17,h=>exact Z8.mod h m
 |18,h=>exact h
 |19,h=>exact h
 |20,h=>exact h
 |21,h=>exact h
 |22,h=>exact Z8.mod h m
 |23,h=>exact h
 |24,h=>exact h
 |25,h=>exact h
 |26,h=>exact h
 |27,h=>exact Z8.mod h m
 |28,h=>exact h
 |29,h=>exact h
 |30,h=>exact h
 |31,h=>exact h
 |32,h=>exact Jo.mod h m
 |33,h=>exact Qw.mod h m
 |i+34,h=>trivial
theorem Ti (n0:Nat) (q:WP) (x:Z5) (i:Nat) (h:34≤i) (v:Value) (w:World):Dp n0 q x i v w:=by
 match i,h with
 |j+34,_=>trivial
variable {w w' w0 w1 w2:World} {p p':MP} {q q':WP} {x x':Z5} {m:Zl} {a b:Nat} {s s':Zj} {S:List Nat}
theorem Lq (h:Zv w q x) (ok:Yl x.m) (hal:x.args.length≤4096):Calls Tryz.prog 227 #[.pointer (some ⟨q.k,0,none⟩)] w (J2 w x.told):=by
 have HR0:=Zh_ (fun (wx:World) (D:Ze [] w wx)=>h.mod D (by simp))
 have HRD:=Zh_ (fun (w1 wx:World) (m1:Ze [] w w1) (hR:Ze [] w1.drew wx)=>h.mod ((m1.drew).trans hR) (by simp))
 have ZD:=Zh_ (heap_alloc_new w (.cells Z4 50))
 have HN:=Zh_ (show w.heap.size < (w.alloc (.cells Z4 50)).heap.size by simp)
 have m1:Ze [] w (w.alloc (.cells Z4 50)):=(Zr_ _ _).alloc _
 clear h
 go_enter func227,ntmps227
 go_upto_region 1 with fail
 change Code.wp _ _ _ _ (w.alloc (.cells Z4 50))
 generalize w.alloc (.cells Z4 50)=w1 at *
 have M1:=Zh_ m1
 replace HRD:=Zh_ (fun (wx:World) (hR:Ze [] w1.drew wx)=>HRD.out w1 wx M1.out hR)
 obtain ⟨n0,hq0⟩:∃ n,n=w1.heap.size:=⟨_,rfl⟩
 have hn0:n0≤w1.drew.heap.size:=Nat.le_of_eq hq0
 replace HN:=Zh_ (show w.heap.size < n0 by rw [hq0];exact HN.out)
 clear m1 hq0
 go_cut [3] (fun A wx=>Lj n0 x.tag (-1) x.number q.st x.args x.m A wx∧Ze [] w wx∧wx.heap[w.heap.size]? =some (.cells Z4 50 (0,0)))
 case first=>
  refine Yu (by kernel_rfl) 34 (by rfl) (fun x y=>Ze [] x y) (Dp n0 q x) (by kernel_rfl) (by rfl) (by kernel_rfl) (R6 n0 q x) (fun a=>Zr_ _ _) (fun a b c h k=>h.trans k) ?_ ?_ ?_
  ·exact fun i v w' hv o ho hd=>Q8 (m:=34) (by kernel_rfl) (Ti n0 q x) ho hd
  ·intro i o hi ho
   match i,hi with
   |0,_=>
    obtain rfl:=Zo_ ho
    intro a wx hR hF hO
    have f0:a.eval (.tmp 0)=.pointer (some ⟨q.k,0,none⟩):=hO 0 (by kernel_rfl) (Zm (by kernel_rfl))
    have e0:=Tv_ f0
    clear hF hO
    go_simp
    exact ⟨Zr_ _ _,rfl⟩
   |1,_=>
    obtain rfl:=Zo_ ho
    intro a wx hR hF hO
    have f4:a.eval (.tmp 4)=.pointer (some ⟨q.k,0,none⟩):=hF 4 0 _ (by kernel_rfl) rfl rfl
    have e4:=Tv_ f4
    clear hF hO
    go_simp
    exact ⟨Zr_ _ _,rfl⟩
   |2,_=>
    obtain rfl:=Zo_ ho
    intro a wx hR hF hO
    have f5:a.eval (.tmp 5)=.pointer (some ⟨q.k,0,none⟩):=hF 5 1 _ (by kernel_rfl) rfl rfl
    have e5:=Tv_ f5
    clear hF hO
    go_simp
    exact ⟨Zr_ _ _,rfl⟩
   |3,_=>
    obtain rfl:=Zo_ ho
    intro a wx hR hF hO
    have f6:a.eval (.tmp 6)=.pointer (some ⟨q.k,9,none⟩):=hF 6 2 _ (by kernel_rfl) rfl rfl
    have e6:=Tv_ f6
    clear hF hO
    have c0:=((HRD.out wx hR).cell 9 (u:=.int .i64 x.tag) rfl).1
    go_simp
    exact ⟨Zr_ _ _,rfl⟩
   |4,_=>
    obtain rfl:=Zo_ ho
    intro a wx hR hF hO
    have f0:a.eval (.tmp 0)=.pointer (some ⟨q.k,0,none⟩):=hO 0 (by kernel_rfl) (Zm (by kernel_rfl))
    have e0:=Tv_ f0
    clear hF hO
    go_simp
    exact ⟨Zr_ _ _,rfl⟩
   |5,_=>
    obtain rfl:=Zo_ ho
    intro a wx hR hF hO
    have f8:a.eval (.tmp 8)=.pointer (some ⟨q.k,0,none⟩):=hF 8 4 _ (by kernel_rfl) rfl rfl
    have e8:=Tv_ f8
    clear hF hO
    go_simp
    exact ⟨Zr_ _ _,rfl⟩
   |6,_=>
    obtain rfl:=Zo_ ho
    intro a wx hR hF hO
    have f9:a.eval (.tmp 9)=.pointer (some ⟨q.k,0,none⟩):=hF 9 5 _ (by kernel_rfl) rfl rfl
    have e9:=Tv_ f9
    clear hF hO
    go_simp
    exact ⟨Zr_ _ _,rfl⟩
   |7,_=>
    obtain rfl:=Zo_ ho
    intro a wx hR hF hO
    have f10:a.eval (.tmp 10)=.pointer (some ⟨q.k,10,none⟩):=hF 10 6 _ (by kernel_rfl) rfl rfl
    have e10:=Tv_ f10
    clear hF hO
    have c0:=((HRD.out wx hR).cell 10 (u:=q.va) rfl).1
    go_simp
    exact ⟨Zr_ _ _,rfl⟩
   |8,_=>
    obtain rfl:=Zo_ ho
    intro a wx hR hF hO
    have f11:a.eval (.tmp 11)=q.va:=hF 11 7 _ (by kernel_rfl) rfl rfl
    have e11:=Tv_ f11
    clear hF hO
    rcases (HRD.out wx hR).args.2 with ⟨hv,h0⟩|⟨g,cap,cur,hv,-,-⟩
    ·rw [hv] at e11
     clear f11
     go_simp
     have h00:x.args=[]:=List.eq_nil_of_length_eq_zero h0
     exact ⟨Zr_ _ _,by rw [h00];exact World.ownsRow_nil _ _ _ _,by simp [Value.ownBlock]⟩
    ·have ho:=(HRD.out wx hR).args
     rw [hv] at ho
     rw [hv] at f11
     clear e11
     have hcs:=ho.cells (g:=g) rfl
     obtain ⟨i0,hi0,hz0,hz1,hz2⟩:=info_parts Uh
     refine Xh _ _ 24 rfl 0 51 i0 (.float .f64 0) 1 8 underlying24 hi0 hz0 hz1 hz2 rfl (by decide) (.slice none 0 0) 0 [] rfl (World.ownsRow_nil _ _ _ _) ⟨g,0,none⟩ x.args.length cap (x.args.map (Value.float .f64)) f11 (by simp) hcs (by intro u hu;simp at hu;obtain ⟨a,_,rfl⟩:=hu;rfl) (by unfold maxLen;omega) (by omega) (Nat.zero_le _) ?_
     intro v' w' h2 h3 h5
     have hc:=Qs.of (t:=51) (z:=1) (by simpa using h2) h3 h5
     obtain ⟨u,hu,hm,hr⟩:=Z8.copied hc (Nat.le_trans hn0 hR.size)
     obtain rfl:=Ending.returned.inj hu
     exact ⟨hm,hr⟩
   |9,_=>
    obtain rfl:=Zo_ ho
    intro a wx hR hF hO
    have f0:a.eval (.tmp 0)=.pointer (some ⟨q.k,0,none⟩):=hO 0 (by kernel_rfl) (Zm (by kernel_rfl))
    have e0:=Tv_ f0
    clear hF hO
    go_simp
    exact ⟨Zr_ _ _,rfl⟩
   |10,_=>
    obtain rfl:=Zo_ ho
    intro a wx hR hF hO
    have f13:a.eval (.tmp 13)=.pointer (some ⟨q.k,0,none⟩):=hF 13 9 _ (by kernel_rfl) rfl rfl
    have e13:=Tv_ f13
    clear hF hO
    go_simp
    exact ⟨Zr_ _ _,rfl⟩
   |11,_=>
    obtain rfl:=Zo_ ho
    intro a wx hR hF hO
    have f14:a.eval (.tmp 14)=.pointer (some ⟨q.k,0,none⟩):=hF 14 10 _ (by kernel_rfl) rfl rfl
    have e14:=Tv_ f14
    clear hF hO
    go_simp
    exact ⟨Zr_ _ _,rfl⟩
   |12,_=>
    obtain rfl:=Zo_ ho
    intro a wx hR hF hO
    have f15:a.eval (.tmp 15)=.pointer (some ⟨q.k,15,none⟩):=hF 15 11 _ (by kernel_rfl) rfl rfl
    have e15:=Tv_ f15
    clear hF hO
    have c0:=((HRD.out wx hR).cell 15 (u:=.int .i64 x.number) rfl).1
    go_simp
    exact ⟨Zr_ _ _,rfl⟩
   |13,_=>
    obtain rfl:=Zo_ ho
    intro a wx hR hF hO
    have f0:a.eval (.tmp 0)=.pointer (some ⟨q.k,0,none⟩):=hO 0 (by kernel_rfl) (Zm (by kernel_rfl))
    have e0:=Tv_ f0
    clear hF hO
    go_simp
    exact ⟨Zr_ _ _,rfl⟩
   |14,_=>
    obtain rfl:=Zo_ ho
    intro a wx hR hF hO
    have f17:a.eval (.tmp 17)=.pointer (some ⟨q.k,0,none⟩):=hF 17 13 _ (by kernel_rfl) rfl rfl
    have e17:=Tv_ f17
    clear hF hO
    go_simp
    exact ⟨Zr_ _ _,rfl⟩
   |15,_=>
    obtain rfl:=Zo_ ho
    intro a wx hR hF hO
    have f18:a.eval (.tmp 18)=.pointer (some ⟨q.k,0,none⟩):=hF 18 14 _ (by kernel_rfl) rfl rfl
    have e18:=Tv_ f18
    clear hF hO
    go_simp
    exact ⟨Zr_ _ _,rfl⟩
   |16,_=>
    obtain rfl:=Zo_ ho
    intro a wx hR hF hO
    have f19:a.eval (.tmp 19)=.pointer (some ⟨q.k,7,none⟩):=hF 19 15 _ (by kernel_rfl) rfl rfl
    have e19:=Tv_ f19
    clear hF hO
    have c0:=((HRD.out wx hR).cell 7 (u:=.pointer (some ⟨q.p.mb,0,none⟩)) rfl).1
    go_simp
    exact ⟨Zr_ _ _,rfl⟩
   |17,_=>
    obtain rfl:=Zo_ ho
    intro a wx hR hF hO
    have f20:a.eval (.tmp 20)=.pointer (some ⟨q.p.mb,0,none⟩):=hF 20 16 _ (by kernel_rfl) rfl rfl
    have e20:=Tv_ f20
    clear hF hO
    go_simp
    refine Calls.mono (Ly (HRD.out wx hR).mach (Gn ok)) ?_
    rintro e w' hc
    obtain ⟨u,rfl,hm,hr⟩:=Z8.copied hc (Nat.le_trans hn0 hR.size)
    exact ⟨u,rfl,hm,hr⟩
   |18,_=>
    obtain rfl:=Zo_ ho
    intro a wx hR hF hO
    have f0:a.eval (.tmp 0)=.pointer (some ⟨q.k,0,none⟩):=hO 0 (by kernel_rfl) (Zm (by kernel_rfl))
    have e0:=Tv_ f0
    clear hF hO
    go_simp
    exact ⟨Zr_ _ _,rfl⟩
   |19,_=>
    obtain rfl:=Zo_ ho
    intro a wx hR hF hO
    have f22:a.eval (.tmp 22)=.pointer (some ⟨q.k,0,none⟩):=hF 22 18 _ (by kernel_rfl) rfl rfl
    have e22:=Tv_ f22
    clear hF hO
    go_simp
    exact ⟨Zr_ _ _,rfl⟩
   |20,_=>
    obtain rfl:=Zo_ ho
    intro a wx hR hF hO
    have f23:a.eval (.tmp 23)=.pointer (some ⟨q.k,0,none⟩):=hF 23 19 _ (by kernel_rfl) rfl rfl
    have e23:=Tv_ f23
    clear hF hO
    go_simp
    exact ⟨Zr_ _ _,rfl⟩
   |21,_=>
    obtain rfl:=Zo_ ho
    intro a wx hR hF hO
    have f24:a.eval (.tmp 24)=.pointer (some ⟨q.k,7,none⟩):=hF 24 20 _ (by kernel_rfl) rfl rfl
    have e24:=Tv_ f24
    clear hF hO
    have c0:=((HRD.out wx hR).cell 7 (u:=.pointer (some ⟨q.p.mb,0,none⟩)) rfl).1
    go_simp
    exact ⟨Zr_ _ _,rfl⟩
   |22,_=>
    obtain rfl:=Zo_ ho
    intro a wx hR hF hO
    have f25:a.eval (.tmp 25)=.pointer (some ⟨q.p.mb,0,none⟩):=hF 25 21 _ (by kernel_rfl) rfl rfl
    have e25:=Tv_ f25
    clear hF hO
    go_simp
    refine Calls.mono (Hg (HRD.out wx hR).mach ok.order) ?_
    rintro e w' hc
    obtain ⟨u,rfl,hm,hr⟩:=Z8.copied hc (Nat.le_trans hn0 hR.size)
    exact ⟨u,rfl,hm,hr⟩
   |23,_=>
    obtain rfl:=Zo_ ho
    intro a wx hR hF hO
    have f0:a.eval (.tmp 0)=.pointer (some ⟨q.k,0,none⟩):=hO 0 (by kernel_rfl) (Zm (by kernel_rfl))
    have e0:=Tv_ f0
    clear hF hO
    go_simp
    exact ⟨Zr_ _ _,rfl⟩
   |24,_=>
    obtain rfl:=Zo_ ho
    intro a wx hR hF hO
    have f27:a.eval (.tmp 27)=.pointer (some ⟨q.k,0,none⟩):=hF 27 23 _ (by kernel_rfl) rfl rfl
    have e27:=Tv_ f27
    clear hF hO
    go_simp
    exact ⟨Zr_ _ _,rfl⟩
   |25,_=>
    obtain rfl:=Zo_ ho
    intro a wx hR hF hO
    have f28:a.eval (.tmp 28)=.pointer (some ⟨q.k,0,none⟩):=hF 28 24 _ (by kernel_rfl) rfl rfl
    have e28:=Tv_ f28
    clear hF hO
    go_simp
    exact ⟨Zr_ _ _,rfl⟩
   |26,_=>
    obtain rfl:=Zo_ ho
    intro a wx hR hF hO
    have f29:a.eval (.tmp 29)=.pointer (some ⟨q.k,7,none⟩):=hF 29 25 _ (by kernel_rfl) rfl rfl
    have e29:=Tv_ f29
    clear hF hO
    have c0:=((HRD.out wx hR).cell 7 (u:=.pointer (some ⟨q.p.mb,0,none⟩)) rfl).1
    go_simp
    exact ⟨Zr_ _ _,rfl⟩
   |27,_=>
    obtain rfl:=Zo_ ho
    intro a wx hR hF hO
    have f30:a.eval (.tmp 30)=.pointer (some ⟨q.p.mb,0,none⟩):=hF 30 26 _ (by kernel_rfl) rfl rfl
    have e30:=Tv_ f30
    clear hF hO
    go_simp
    refine Calls.mono (out_c (HRD.out wx hR).mach (out_le ok)) ?_
    rintro e w' hc
    obtain ⟨u,rfl,hm,hr⟩:=Z8.copied hc (Nat.le_trans hn0 hR.size)
    exact ⟨u,rfl,hm,hr⟩
   |28,_=>
    obtain rfl:=Zo_ ho
    intro a wx hR hF hO
    have f0:a.eval (.tmp 0)=.pointer (some ⟨q.k,0,none⟩):=hO 0 (by kernel_rfl) (Zm (by kernel_rfl))
    have e0:=Tv_ f0
    clear hF hO
    go_simp
    exact ⟨Zr_ _ _,rfl⟩
   |29,_=>
    obtain rfl:=Zo_ ho
    intro a wx hR hF hO
    have f32:a.eval (.tmp 32)=.pointer (some ⟨q.k,0,none⟩):=hF 32 28 _ (by kernel_rfl) rfl rfl
    have e32:=Tv_ f32
    clear hF hO
    go_simp
    exact ⟨Zr_ _ _,rfl⟩
   |30,_=>
    obtain rfl:=Zo_ ho
    intro a wx hR hF hO
    have f33:a.eval (.tmp 33)=.pointer (some ⟨q.k,0,none⟩):=hF 33 29 _ (by kernel_rfl) rfl rfl
    have e33:=Tv_ f33
    clear hF hO
    go_simp
    exact ⟨Zr_ _ _,rfl⟩
   |31,_=>
    obtain rfl:=Zo_ ho
    intro a wx hR hF hO
    have f34:a.eval (.tmp 34)=.pointer (some ⟨q.k,12,none⟩):=hF 34 30 _ (by kernel_rfl) rfl rfl
    have e34:=Tv_ f34
    clear hF hO
    have c0:=((HRD.out wx hR).cell 12 (u:=.int .i64 q.st) rfl).1
    go_simp
    exact ⟨Zr_ _ _,rfl⟩
   |32,_=>
    obtain rfl:=Zo_ ho
    intro a wx hR hF hO
    have f7:a.eval (.tmp 7)=.int .i64 x.tag:=hF 7 3 _ (by kernel_rfl) rfl rfl
    have e7:=Tv_ f7
    have e12:Z8 n0 51 1 x.args.length (x.args.map (Value.float .f64)) (a.eval (.tmp 12)) wx:=hF 12 8 _ (by kernel_rfl) rfl rfl
    have f16:a.eval (.tmp 16)=.int .i64 x.number:=hF 16 12 _ (by kernel_rfl) rfl rfl
    have e16:=Tv_ f16
    have e21:Z8 n0 53 2 x.m.reads.length (Yh x.m.reads) (a.eval (.tmp 21)) wx:=hF 21 17 _ (by kernel_rfl) rfl rfl
    have e26:Z8 n0 53 2 x.m.buf.order.length (Yh x.m.buf.all) (a.eval (.tmp 26)) wx:=hF 26 22 _ (by kernel_rfl) rfl rfl
    have e31:Z8 n0 51 1 x.m.out.length (x.m.out.map (Value.float .f64)) (a.eval (.tmp 31)) wx:=hF 31 27 _ (by kernel_rfl) rfl rfl
    have f35:a.eval (.tmp 35)=.int .i64 q.st:=hF 35 31 _ (by kernel_rfl) rfl rfl
    have e35:=Tv_ f35
    clear hF hO
    rw [show a.eval (.tmp 12)=a.tmps[12]?.getD undef by simp [Act.eval]] at e12
    have r12:=Zh_ e12
    obtain ⟨b12,k12,q12⟩:=Zo e12.1
    rw [show a.eval (.tmp 21)=a.tmps[21]?.getD undef by simp [Act.eval]] at e21
    have r21:=Zh_ e21
    obtain ⟨b21,k21,q21⟩:=Zo e21.1
    rw [show a.eval (.tmp 26)=a.tmps[26]?.getD undef by simp [Act.eval]] at e26
    have r26:=Zh_ e26
    obtain ⟨b26,k26,q26⟩:=Zo e26.1
    rw [show a.eval (.tmp 31)=a.tmps[31]?.getD undef by simp [Act.eval]] at e31
    have r31:=Zh_ e31
    obtain ⟨b31,k31,q31⟩:=Zo e31.1
    clear e12 e21 e26 e31
    go_simp
    exact ⟨Zr_ _ _,_,_,_,_,rfl,by have:=r12.out;rw [q12] at this;exact this,by have:=r21.out;rw [q21] at this;exact this,by have:=r26.out;rw [q26] at this;exact this,by have:=r31.out;rw [q31] at this;exact this⟩
   |33,_=>
    obtain rfl:=Zo_ ho
    intro a wx hR hF hO
    clear hF hO
    go_simp
    exact ⟨(Zr_ _ _).alloc _,_,rfl,heap_alloc_new _ _,Nat.le_trans hn0 hR.size⟩
   |j+34,hh=>omega
  ·intro vs w2 hR hv
   obtain ⟨g5,e5,k5,hg5⟩:Qw n0 (vs 33) w2:=hv 33 (by decide)
   obtain ⟨va,vr,vw,vo,e35,ra,rr,rw',ro⟩:Jo n0 x.tag (-1) x.number q.st x.args x.m (vs 32) w2:=hv 32 (by decide)
   have FIN:=Zh_ (Mm (tag:=x.tag) (mark:=-1) (num:=x.number) (st:=q.st) M1.out hR (Nat.le_of_lt HN.out) k5 hg5 ra rr rw' ro)
   have K5:=Zh_ k5
   have M2:=Zh_ ((Zr_ [] w1).drew.trans hR)
   have NEg:=Zh_ (show w.heap.size≠g5 from fun e=>by have:=HN.out;omega)
   have ONE:=Zh_ (Pf (tag:=x.tag) (mark:=-1) (num:=x.number) (st:=q.st) (Y7 ra.1) (Y7 rr.1) (Y7 rw'.1) (Y7 ro.1))
   clear hg5 ra rr rw' ro hR k5
   simp only [Xb,List.take_succ_cons,List.take_zero,Act.put,e5,e35]
   go_simp
   refine wpList_store_row rfl 50 _ _ rfl g5 (Uy x.tag (-1) x.number q.st va vr vw vo) rfl rfl 50 Z4 K5.out (by kernel_rfl) rfl ONE.out ?_
   go_wp2_with fail
   go_meet
   exact ⟨FIN.out.1,FIN.out.2,(setRow_other _ _ _ _ NEg.out).trans ((M2.out).at ZD.out (by simp))⟩
 case rest=>
  obtain ⟨⟨g5,va,vr,vw,vo,rfl,K5,hg5,ra,rr,rw',ro⟩,mc,z6⟩:=hcut
  have NE:=Zh_ (show g5≠w.heap.size from fun e=>by have:=HN.out;omega)
  have ONE:=Zh_ (fun (a b c d:Int)=>Gy (tag:=x.tag) (mark:=d) (num:=x.number) (st:=q.st) (a:=a) (b:=b) (c:=c) (Y7 ra.1) (Y7 rr.1) (Y7 rw'.1) (Y7 ro.1))
  have RA:=Zh_ ra
  have RR:=Zh_ rr
  have RW:=Zh_ rw'
  have RO:=Zh_ ro
  have HG:=Zh_ hg5
  have KD:=Zh_ K5
  have MC:=Zh_ mc
  have Z0:=Zh_ z6
  clear K5 hg5 ra rr rw' ro mc z6
  have HRc:=HR0.out _ MC.out
  have c11:=(HRc.cell 11 (u:=.int .i64 x.part) rfl).1
  have hlt:=lt_of_block HRc.hd
  by_cases h1:1 < x.part
  ·have d1:decide (1 < x.part)=true:=decide_eq_true h1
   have c13:=(HRc.cell 13 (u:=.int .u64 x.ticket) rfl).1
   have b5:=Za (i:=5) KD.out rfl
   have y5:=Zb (i:=5) KD.out
   have l5:=lt_of_block KD.out
   have m7:Ze [g5] wc (wc.setCell ⟨g5,5,none⟩ (.int .i64 (wrap64 x.ticket))):=(Zr_ _ _).set_own _ _
   have K7:=Zh_ (show (wc.setCell ⟨g5,5,none⟩ (.int .i64 (wrap64 x.ticket))).heap[g5]? =some (.cells (Uy x.tag (wrap64 x.ticket) x.number q.st va vr vw vo) 50 (0,0)) from Zd _ KD.out)
   have RA7:=Zh_ (RA.out.far KD.out (by decide) m7)
   have RR7:=Zh_ (RR.out.far KD.out (by decide) m7)
   have RW7:=Zh_ (RW.out.far KD.out (by decide) m7)
   have RO7:=Zh_ (RO.out.far KD.out (by decide) m7)
   have Z7:=Zh_ (m7.at Z0.out (by have:=NE.out;simp;omega))
   have M7:=Zh_ (MC.out.then m7 (fun k hk=>.inr (by have:=HN.out;have:=HG.out;simp at hk;omega)))
   clear m7 HRc
   go_upto_region 4 with fail
   clear c11 c13 b5 y5 l5 hlt
   generalize (wc.setCell ⟨g5,5,none⟩ (.int .i64 (wrap64 x.ticket)))=w7 at *
   have HRc:=HR0.out _ M7.out
   have c11:=(HRc.cell 11 (u:=.int .i64 x.part) rfl).1
   have c7:=(HRc.cell 7 (u:=.pointer (some ⟨q.p.mb,0,none⟩)) rfl).1
   have hlt:=lt_of_block HRc.hd
   by_cases hp:x.part=9
   ·have d9:(x.part==9)=true:=by simp [hp]
    have hc:=end_c HRc.mach
    clear HRc
    go_wp2_with fail
    refine hc.mono ?_;rintro e w5 ⟨rfl,m5⟩
    have KD5:=m5.at K7.out (by simp)
    have b10:=Za (i:=10) KD5 rfl
    have b11:=Za (i:=11) KD5 rfl
    have b12:=Za (i:=12) KD5 rfl
    have y10:=Zb (i:=10) KD5
    have y11:=Zb (i:=11) KD5
    have y12:=Zb (i:=12) KD5
    have l5:=lt_of_block KD5
    have mm5:Ze [g5] w5 (((w5.setCell ⟨g5,10,none⟩ (.int .i64 x.m.how)).setCell ⟨g5,11,none⟩ (.int .i64 x.m.ecode)).setCell ⟨g5,12,none⟩ (.int .i64 x.m.eerr)):=(((Zr_ _ _).set_own _ _).set_own _ _).set_own _ _
    have K6:=Zh_ (show (((w5.setCell ⟨g5,10,none⟩ (.int .i64 x.m.how)).setCell ⟨g5,11,none⟩ (.int .i64 x.m.ecode)).setCell ⟨g5,12,none⟩ (.int .i64 x.m.eerr)).heap[g5]? =some (.cells (Qb x.tag (wrap64 x.ticket) x.number q.st x.m.how x.m.ecode x.m.eerr va vr vw vo) 50 (0,0)) from Zd _ (Zd _ (Zd _ KD5)))
    have RA6:=Zh_ ((RA7.out.mod m5).far KD5 (by decide) mm5)
    have RR6:=Zh_ ((RR7.out.mod m5).far KD5 (by decide) mm5)
    have RW6:=Zh_ ((RW7.out.mod m5).far KD5 (by decide) mm5)
    have RO6:=Zh_ ((RO7.out.mod m5).far KD5 (by decide) mm5)
    have Z6:=Zh_ (mm5.at (m5.at Z7.out (by simp)) (by have:=NE.out;simp;omega))
    have M6:=Zh_ ((M7.out.trans m5).then mm5 (fun k hk=>.inr (by have:=HN.out;have:=HG.out;simp at hk;omega)))
    clear mm5 KD5 m5 hc c11 c7
    go_upto_region 6 with fail
    refine wp_region_lit ?_
    refine wpList_load_row rfl 50 _ rfl g5 rfl 50 (Qb x.tag (wrap64 x.ticket) x.number q.st x.m.how x.m.ecode x.m.eerr va vr vw vo) (0,0) _ K6.out underlying50 rfl (by kernel_rfl) ?_
    refine wpList_store_row rfl 50 _ _ rfl w.heap.size (Qb x.tag (wrap64 x.ticket) x.number q.st x.m.how x.m.ecode x.m.eerr va vr vw vo) rfl rfl 50 Z4 Z6.out (by kernel_rfl) rfl (ONE.out _ _ _ _) ?_
    generalize (((w5.setCell ⟨g5,10,none⟩ (.int .i64 x.m.how)).setCell ⟨g5,11,none⟩ (.int .i64 x.m.ecode)).setCell ⟨g5,12,none⟩ (.int .i64 x.m.eerr))=w6 at *
    go_wp2_with fail
    refine bodyPost_ret (v:=.agg (Qb x.tag (wrap64 x.ticket) x.number q.st x.m.how x.m.ecode x.m.eerr va vr vw vo)) (results_cell_row (P:=Tryz.prog) (fn:=Tryz.f227) (p:=2) (ty:=50) rfl _ _ w.heap.size 50 _ (0,0) _ rfl (Yo Z6.out) underlying50 rfl (by kernel_rfl)) rfl ?_
    have mm:Ze [w.heap.size] w6 (w6.setRow w.heap.size (Qb x.tag (wrap64 x.ticket) x.number q.st x.m.how x.m.ecode x.m.eerr va vr vw vo)):=(Zr_ _ _).setRow _ _ (.inl (by simp))
    have le:=Nat.le_of_lt HN.out
    have ht:x.told=⟨0,0,0,x.tag,x.args,(wrap64 x.ticket),x.number,x.m.reads,x.m.buf.all,x.m.out,x.m.how,x.m.ecode,x.m.eerr,0,0⟩:=by unfold Z5.told;simp [hp]
    rw [ht]
    exact ⟨_,_,_,_,_,rfl,(RA6.out.weak le).far Z6.out (by decide) mm,(RR6.out.weak le).far Z6.out (by decide) mm,(RW6.out.weak le).far Z6.out (by decide) mm,(RO6.out.weak le).far Z6.out (by decide) mm,M6.out.then mm (fun k hk=>.inr (by simp at hk;omega))⟩
   ·have d9:(x.part==9)=false:=by simp [hp]
    have K6:=Zh_ (show w7.heap[g5]? =some (.cells (Qb x.tag (wrap64 x.ticket) x.number q.st 0 0 0 va vr vw vo) 50 (0,0)) from K7.out)
    have RA6:=RA7
    have RR6:=RR7
    have RW6:=RW7
    have RO6:=RO7
    have Z6:=Z7
    have M6:=M7
    clear HRc
    go_upto_region 6 with fail
    refine wp_region_lit ?_
    refine wpList_load_row rfl 50 _ rfl g5 rfl 50 (Qb x.tag (wrap64 x.ticket) x.number q.st 0 0 0 va vr vw vo) (0,0) _ K6.out underlying50 rfl (by kernel_rfl) ?_
    refine wpList_store_row rfl 50 _ _ rfl w.heap.size (Qb x.tag (wrap64 x.ticket) x.number q.st 0 0 0 va vr vw vo) rfl rfl 50 Z4 Z6.out (by kernel_rfl) rfl (ONE.out _ _ _ _) ?_
    go_wp2_with fail
    refine bodyPost_ret (v:=.agg (Qb x.tag (wrap64 x.ticket) x.number q.st 0 0 0 va vr vw vo)) (results_cell_row (P:=Tryz.prog) (fn:=Tryz.f227) (p:=2) (ty:=50) rfl _ _ w.heap.size 50 _ (0,0) _ rfl (Yo Z6.out) underlying50 rfl (by kernel_rfl)) rfl ?_
    have mm:Ze [w.heap.size] w7 (w7.setRow w.heap.size (Qb x.tag (wrap64 x.ticket) x.number q.st 0 0 0 va vr vw vo)):=(Zr_ _ _).setRow _ _ (.inl (by simp))
    have le:=Nat.le_of_lt HN.out
    have ht:x.told=⟨0,0,0,x.tag,x.args,(wrap64 x.ticket),x.number,x.m.reads,x.m.buf.all,x.m.out,0,0,0,0,0⟩:=by unfold Z5.told;simp [hp,h1]
    rw [ht]
    exact ⟨_,_,_,_,_,rfl,(RA6.out.weak le).far Z6.out (by decide) mm,(RR6.out.weak le).far Z6.out (by decide) mm,(RW6.out.weak le).far Z6.out (by decide) mm,(RO6.out.weak le).far Z6.out (by decide) mm,M6.out.then mm (fun k hk=>.inr (by simp at hk;omega))⟩
  ·have H1:=Zh_ h1
   have d1:decide (1 < x.part)=false:=decide_eq_false h1
   have hp:x.part≠9:=by omega
   have d9:(x.part==9)=false:=by simp [hp]
   have K6:=Zh_ (show wc.heap[g5]? =some (.cells (Qb x.tag (-1) x.number q.st 0 0 0 va vr vw vo) 50 (0,0)) from KD.out)
   have RA6:=RA
   have RR6:=RR
   have RW6:=RW
   have RO6:=RO
   have Z6:=Z0
   have M6:=MC
   clear HRc
   go_upto_region 6 with fail
   refine wp_region_lit ?_
   refine wpList_load_row rfl 50 _ rfl g5 rfl 50 (Qb x.tag (-1) x.number q.st 0 0 0 va vr vw vo) (0,0) _ K6.out underlying50 rfl (by kernel_rfl) ?_
   refine wpList_store_row rfl 50 _ _ rfl w.heap.size (Qb x.tag (-1) x.number q.st 0 0 0 va vr vw vo) rfl rfl 50 Z4 Z6.out (by kernel_rfl) rfl (ONE.out _ _ _ _) ?_
   go_wp2_with fail
   refine bodyPost_ret (v:=.agg (Qb x.tag (-1) x.number q.st 0 0 0 va vr vw vo)) (results_cell_row (P:=Tryz.prog) (fn:=Tryz.f227) (p:=2) (ty:=50) rfl _ _ w.heap.size 50 _ (0,0) _ rfl (Yo Z6.out) underlying50 rfl (by kernel_rfl)) rfl ?_
   have mm:Ze [w.heap.size] wc (wc.setRow w.heap.size (Qb x.tag (-1) x.number q.st 0 0 0 va vr vw vo)):=(Zr_ _ _).setRow _ _ (.inl (by simp))
   have le:=Nat.le_of_lt HN.out
   have ht:x.told=⟨0,0,0,x.tag,x.args,(-1),x.number,x.m.reads,x.m.buf.all,x.m.out,0,0,0,0,0⟩:=by unfold Z5.told;rw [if_neg (by have:=H1.out;omega)];simp [hp]
   rw [ht]
   exact ⟨_,_,_,_,_,rfl,(RA6.out.weak le).far Z6.out (by decide) mm,(RR6.out.weak le).far Z6.out (by decide) mm,(RW6.out.weak le).far Z6.out (by decide) mm,(RO6.out.weak le).far Z6.out (by decide) mm,M6.out.then mm (fun k hk=>.inr (by simp at hk;omega))⟩
end
section
attribute [local go_sem] Zi
def Dt (n0:Nat) (q:RP) (x:Yk):Nat→Value→World→Prop
 |0,v,_=>v=.pointer (some ⟨q.k,0,none⟩)
 |1,v,_=>v=.pointer (some ⟨q.k,0,none⟩)
 |2,v,_=>v=.pointer (some ⟨q.k,0,none⟩)
 |3,v,_=>v=.pointer (some ⟨q.k,0,none⟩)
 |4,v,_=>v=.pointer (some ⟨q.k,0,none⟩)
 |5,v,_=>v=.pointer (some ⟨q.k,12,none⟩)
 |6,v,_=>v=.pointer (some ⟨q.cm,0,none⟩)
 |7,v,_=>v=.int .u64 x.com.st
 |8,v,_=>v=.int .i64 (wrap64 x.com.st)
 |9,v,w=>Pj n0 {x.told with mark:=wrap64 x.com.st} v w
 |_,_,_=>True
theorem Sx (n0:Nat) (q:RP) (x:Yk) (i:Nat) (v:Value) (w w':World) (h:Dt n0 q x i v w) (m:Ze [] w w'):Dt n0 q x i v w':=by
 match i,h with
 |0,h=>exact h
 |1,h=>exact h
 |2,h=>exact h
 |3,h=>exact h
 |4,h=>exact h
 |5,h=>exact h
 |6,h=>exact h
 |7,h=>exact h
 |8,h=>exact h
 |9,h=>exact Pj.mod h m
 |i+10,h=>trivial
theorem T3 (n0:Nat) (q:RP) (x:Yk) (i:Nat) (h:10≤i) (v:Value) (w:World):Dt n0 q x i v w:=by
 match i,h with
 |j+10,_=>trivial
variable {w w' w0 w1 w2:World} {p p':MP} {q q':RP} {x x':Yk} {m:Zl} {a b:Nat} {s s':Zj} {S:List Nat}
theorem rdeed_c (h:Z9 w q x) (ok:Yl x.m) (hal:x.args.length≤4096):Calls Tryz.prog 232 #[.pointer (some ⟨q.k,0,none⟩)] w (J2 w x.told):=by
 have ZD:=Zh_ (heap_alloc_new w (.cells Z4 50))
 have HN:=Zh_ (show w.heap.size < (w.alloc (.cells Z4 50)).heap.size by simp)
 have m1:Ze [] w (w.alloc (.cells Z4 50)):=(Zr_ _ _).alloc _
 have h1:Z9 (w.alloc (.cells Z4 50)) q x:=h.mod m1 (by simp)
 clear h
 by_cases hp:x.part=1
 ·have HP:=Zh_ hp
  have d1:(x.part==1)=true:=by simp [hp]
  clear hp
  go_enter func232,ntmps232
  go_upto_region 1 with fail
  change Code.wp _ _ _ _ (w.alloc (.cells Z4 50))
  generalize w.alloc (.cells Z4 50)=w1 at *
  have c9:=(h1.cell 9 (u:=.int .i64 x.part) rfl).1
  have hlt:=lt_of_block h1.hd
  have hc:=Lt h1 ok hal (-1)
  have M1:=Zh_ m1
  clear m1 h1
  go_wp2_with fail
  refine hc.mono ?_;rintro e w2 ⟨st,va,vr,vw,vo,rfl,ra,rr,rw',ro,m2⟩
  have hd:({x.told with mark:=-1}:Z2)=x.told:=by have:=HP.out;unfold Yk.told;simp [this]
  rw [hd] at ra rr rw' ro
  have FIN:=Zh_ (Nm (d:=x.told) (st:=st) M1.out m2 (Nat.le_of_lt HN.out) (m2.at ZD.out (by simp)) ra rr rw' ro)
  have Z6:=Zh_ (m2.at ZD.out (by simp))
  have ONE:=Zh_ (Gy (tag:=x.told.tag) (mark:=x.told.mark) (num:=x.told.number) (st:=st) (a:=x.told.how) (b:=x.told.ecode) (c:=x.told.eerr) (Y7 ra.1) (Y7 rr.1) (Y7 rw'.1) (Y7 ro.1))
  have HD:=Zh_ hd
  rw [show (-1:Int)=x.told.mark from by rw [←hd]]
  clear hc c9 hlt m2 ra rr rw' ro hd
  go_wp2_with (refine wpList_store_row rfl 50 _ _ rfl w.heap.size (Qb x.told.tag x.told.mark x.told.number st x.told.how x.told.ecode x.told.eerr va vr vw vo) rfl rfl 50 Z4 Z6.out (by kernel_rfl) rfl ONE.out ?_)
  refine bodyPost_ret (v:=.agg (Qb x.told.tag x.told.mark x.told.number st x.told.how x.told.ecode x.told.eerr va vr vw vo)) (results_cell_row (P:=Tryz.prog) (fn:=Tryz.f232) (p:=2) (ty:=50) rfl _ _ w.heap.size 50 _ (0,0) _ rfl (Yo Z6.out) underlying50 rfl (by kernel_rfl)) rfl ?_
  exact FIN.out
 ·have d1:(x.part==1)=false:=by simp [hp]
  have HP:=Zh_ hp
  clear hp
  go_enter func232,ntmps232
  go_upto_region 1 with fail
  change Code.wp _ _ _ _ (w.alloc (.cells Z4 50))
  generalize w.alloc (.cells Z4 50)=w1 at *
  have c9:=(h1.cell 9 (u:=.int .i64 x.part) rfl).1
  have hlt:=lt_of_block h1.hd
  have M1:=Zh_ m1
  have HRD:=Zh_ (fun (wx:World) (hR:Ze [] w1.drew wx)=>h1.mod ((Zr_ [] w1).drew.trans hR) (by simp))
  obtain ⟨n0,hq0⟩:∃ n,n=w1.heap.size:=⟨_,rfl⟩
  have hn0:n0≤w1.drew.heap.size:=Nat.le_of_eq hq0
  replace HN:=Zh_ (show w.heap.size < n0 by rw [hq0];exact HN.out)
  clear m1 h1 hq0
  go_upto_region 3 with fail
  clear c9 hlt
  refine Yu (by kernel_rfl) 10 (by rfl) (fun x y=>Ze [] x y) (Dt n0 q x) (by kernel_rfl) (by rfl) (by kernel_rfl) (Sx n0 q x) (fun a=>Zr_ _ _) (fun a b c h k=>h.trans k) ?_ ?_ ?_
  ·exact fun i v w' hv o ho hd=>Q8 (m:=10) (by kernel_rfl) (T3 n0 q x) ho hd
  ·intro i o hi ho
   match i,hi with
   |0,_=>
    obtain rfl:=Zo_ ho
    intro a wx hR hF hO
    have f0:a.eval (.tmp 0)=.pointer (some ⟨q.k,0,none⟩):=hO 0 (by kernel_rfl) (Zm (by kernel_rfl))
    have e0:=Tv_ f0
    clear hF hO
    go_simp
    exact ⟨Zr_ _ _,rfl⟩
   |1,_=>
    obtain rfl:=Zo_ ho
    intro a wx hR hF hO
    have f13:a.eval (.tmp 13)=.pointer (some ⟨q.k,0,none⟩):=hF 13 0 _ (by kernel_rfl) rfl rfl
    have e13:=Tv_ f13
    clear hF hO
    go_simp
    exact ⟨Zr_ _ _,rfl⟩
   |2,_=>
    obtain rfl:=Zo_ ho
    intro a wx hR hF hO
    have f14:a.eval (.tmp 14)=.pointer (some ⟨q.k,0,none⟩):=hF 14 1 _ (by kernel_rfl) rfl rfl
    have e14:=Tv_ f14
    clear hF hO
    go_simp
    exact ⟨Zr_ _ _,rfl⟩
   |3,_=>
    obtain rfl:=Zo_ ho
    intro a wx hR hF hO
    have f0:a.eval (.tmp 0)=.pointer (some ⟨q.k,0,none⟩):=hO 0 (by kernel_rfl) (Zm (by kernel_rfl))
    have e0:=Tv_ f0
    clear hF hO
    go_simp
    exact ⟨Zr_ _ _,rfl⟩
   |4,_=>
    obtain rfl:=Zo_ ho
    intro a wx hR hF hO
    have f16:a.eval (.tmp 16)=.pointer (some ⟨q.k,0,none⟩):=hF 16 3 _ (by kernel_rfl) rfl rfl
    have e16:=Tv_ f16
    clear hF hO
    go_simp
    exact ⟨Zr_ _ _,rfl⟩
   |5,_=>
    obtain rfl:=Zo_ ho
    intro a wx hR hF hO
    have f17:a.eval (.tmp 17)=.pointer (some ⟨q.k,0,none⟩):=hF 17 4 _ (by kernel_rfl) rfl rfl
    have e17:=Tv_ f17
    clear hF hO
    go_simp
    exact ⟨Zr_ _ _,rfl⟩
   |6,_=>
    obtain rfl:=Zo_ ho
    intro a wx hR hF hO
    have f18:a.eval (.tmp 18)=.pointer (some ⟨q.k,12,none⟩):=hF 18 5 _ (by kernel_rfl) rfl rfl
    have e18:=Tv_ f18
    clear hF hO
    have c0:=((HRD.out wx hR).cell 12 (u:=.pointer (some ⟨q.cm,0,none⟩)) rfl).1
    go_simp
    exact ⟨Zr_ _ _,rfl⟩
   |7,_=>
    obtain rfl:=Zo_ ho
    intro a wx hR hF hO
    have f19:a.eval (.tmp 19)=.pointer (some ⟨q.cm,0,none⟩):=hF 19 6 _ (by kernel_rfl) rfl rfl
    have e19:=Tv_ f19
    clear hF hO
    go_simp
    exact Calls.mono (Mn _ (HRD.out wx hR).com) (fun e w2 ⟨he,hw⟩=>⟨_,he,by rw [hw];exact Zr_ _ _,rfl⟩)
   |8,_=>
    obtain rfl:=Zo_ ho
    intro a wx hR hF hO
    have f20:a.eval (.tmp 20)=.int .u64 x.com.st:=hF 20 7 _ (by kernel_rfl) rfl rfl
    have e20:=Tv_ f20
    clear hF hO
    go_simp
    exact ⟨Zr_ _ _,congrArg _ (IntWalk.i64_left _)⟩
   |9,_=>
    obtain rfl:=Zo_ ho
    intro a wx hR hF hO
    have f15:a.eval (.tmp 15)=.pointer (some ⟨q.k,0,none⟩):=hF 15 2 _ (by kernel_rfl) rfl rfl
    have e15:=Tv_ f15
    have f21:a.eval (.tmp 21)=.int .i64 (wrap64 x.com.st):=hF 21 8 _ (by kernel_rfl) rfl rfl
    have e21:=Tv_ f21
    clear hF hO
    go_simp
    refine Calls.mono (Lt (HRD.out wx hR) ok hal (wrap64 x.com.st)) ?_
    rintro e w' hc
    obtain ⟨u,rfl,hm,hr⟩:=J2.to hc (Nat.le_trans hn0 hR.size)
    exact ⟨u,rfl,hm,hr⟩
   |j+10,hh=>omega
  ·intro vs w2 hR hv
   obtain ⟨st,va,vr,vw,vo,e22,ra,rr,rw',ro⟩:Pj n0 {x.told with mark:=wrap64 x.com.st} (vs 9) w2:=hv 9 (by decide)
   have hd:({x.told with mark:=wrap64 x.com.st}:Z2)=x.told:=by have:=HP.out;unfold Yk.told;simp [this]
   rw [hd] at ra rr rw' ro e22
   have m2:Ze [] w1 w2:=(Zr_ [] w1).drew.trans hR
   have FIN:=Zh_ (Nm (d:=x.told) (st:=st) M1.out m2 (Nat.le_of_lt HN.out) (m2.at ZD.out (by simp)) ra rr rw' ro)
   have Z6:=Zh_ (m2.at ZD.out (by simp))
   have ONE:=Zh_ (Gy (tag:=x.told.tag) (mark:=x.told.mark) (num:=x.told.number) (st:=st) (a:=x.told.how) (b:=x.told.ecode) (c:=x.told.eerr) (Y7 ra.1) (Y7 rr.1) (Y7 rw'.1) (Y7 ro.1))
   clear m2 ra rr rw' ro hd hR
   simp only [Xb,List.take_succ_cons,List.take_zero,Act.put,e22]
   go_simp
   refine wpList_store_row rfl 50 _ _ rfl w.heap.size (Qb x.told.tag x.told.mark x.told.number st x.told.how x.told.ecode x.told.eerr va vr vw vo) rfl rfl 50 Z4 Z6.out (by kernel_rfl) rfl ONE.out ?_
   go_wp2_with fail
   refine bodyPost_ret (v:=.agg (Qb x.told.tag x.told.mark x.told.number st x.told.how x.told.ecode x.told.eerr va vr vw vo)) (results_cell_row (P:=Tryz.prog) (fn:=Tryz.f232) (p:=2) (ty:=50) rfl _ _ w.heap.size 50 _ (0,0) _ rfl (Yo Z6.out) underlying50 rfl (by kernel_rfl)) rfl ?_
   exact FIN.out
end
section
attribute [local go_sem] Zi
attribute [local go_sem] Xz Xi
variable {w w' w0 w1 w2:World} {c0 c1 c2 c3 tag:Int} {code:List Xf} {args:List Nat} {vc va:Value} {a b:Nat} {s:Zj}
theorem Ye {w w':World} {v:Value} {n:Nat} {xs:List Value} {t:TypeId} {z:Nat} (h:w.ownsRow 0 t z v n xs) (m:Ze [] w w'):w'.ownsRow 0 t z v n xs:=Zs h m (by simp)
def wK (c0 c1 c2 c3 tag:Int) (code:List Xf) (args:List Nat) (k:Nat):Z5:={Um c0 c1 c2 c3 tag code args with args:=(args.take k).map Zu,part:=0}
theorem wK_all:{wK c0 c1 c2 c3 tag code args args.length with part:=1}=Um c0 c1 c2 c3 tag code args:=by
 unfold wK Um
 simp
theorem wK_succ {k:Nat} (hk:k < args.length):{wK c0 c1 c2 c3 tag code args k with args:=(wK c0 c1 c2 c3 tag code args k).args++[Zu args[k]]}=wK c0 c1 c2 c3 tag code args (k+1):=by
 unfold wK
 simp only
 rw [List.take_succ_eq_append_getElem hk]
 simp only [List.map_append,List.map_cons,List.map_nil]
def NewW (w:World) (a b:Nat) (x:Z5) (s:Zj) (e:Ending) (w':World):Prop:=∃ q,e=.returned (.pointer (some ⟨q.k,0,none⟩))∧Zv w' q x∧q.nx=Xe 1∧Zh 137 w' a b s∧Ze [] w w'∧∀ k∈q.blocks,w.heap.size≤k
theorem wnew_c (hcf:Yt c0 c1 c2 c3) (th:Int) (ht0:0≤th) (ht1:th < c1) (hcode:w.ownsRow 0 106 3 vc code.length (Yj code)) (hcl:code.length≤5864062014635) (hargs:w.ownsRow 0 51 1 va args.length (args.map (Value.float .f64))) (hal:args.length≤8) (hM:Zh 137 w a b s):
  Calls Tryz.prog 65 #[.agg #[.int .i64 c0,.int .i64 c1,.int .i64 c2,.int .i64 c3],.int .i64 th,.agg #[.int .i64 tag,vc],va] w (NewW w a b (Um c0 c1 c2 c3 tag code args) s):=by
 obtain ⟨aa,ca,rfl⟩:=Zo hargs
 have dl:decide (th < 0)=false:=decide_eq_false (by omega)
 have dc:decide (c1≤th)=false:=decide_eq_false (by omega)
 have b4:((w.alloc (.cells #[.int .i64 c0,.int .i64 c1,.int .i64 c2,.int .i64 c3] 23)).alloc (.cells #[.int .i64 tag,vc] 110)).heap[w.heap.size]? =some (.cells #[.int .i64 c0,.int .i64 c1,.int .i64 c2,.int .i64 c3] 23 (0,0)):=Zf _ (Zc _ _)
 have b6:((w.alloc (.cells #[.int .i64 c0,.int .i64 c1,.int .i64 c2,.int .i64 c3] 23)).alloc (.cells #[.int .i64 tag,vc] 110)).heap[w.heap.size+1]? =some (.cells #[.int .i64 tag,vc] 110 (0,0)):=Mu w _ _
 have M1:=Zh_ (show Ze [] w ((w.alloc (.cells #[.int .i64 c0,.int .i64 c1,.int .i64 c2,.int .i64 c3] 23)).alloc (.cells #[.int .i64 tag,vc] 110)) from ((Zr_ _ _).alloc _).alloc _)
 have hpl:=fun w=>Vn c0 c1 c2 c3 hcf w
 have HM:=Zh_ (fun (wx:World) (m:Ze [] w wx)=>mnew_c (w:=wx) hcf (Ye hcode m) hcl (Ye hargs m) hal (tag:=tag))
 have HMEM:=Zh_ (fun (wx:World) (m:Ze [] w wx)=>hM.mod m (by simp) (by simp))
 have HARGS:=Zh_ (fun (wx:World) (m:Ze [] w wx)=>Ye hargs m)
 clear hcode hargs hcf hM ht0 ht1
 go_enter func65,ntmps65
 go_upto_region 1 with fail
 generalize (w.alloc (.cells #[.int .i64 c0,.int .i64 c1,.int .i64 c2,.int .i64 c3] 23)).alloc (.cells #[.int .i64 tag,vc] 110)=w1 at *
 have x0:=Za (i:=0) b4 rfl
 have x1:=Za (i:=1) b4 rfl
 have x2:=Za (i:=2) b4 rfl
 have x3:=Za (i:=3) b4 rfl
 have l4:=lt_of_block b4
 have B4:=Zh_ b4
 have B6:=Zh_ b6
 clear b4 b6
 go_wp2_with fail
 refine (hpl _).mono ?_;rintro e w2 ⟨rfl,m2⟩
 have b4:=m2.at B4.out (by simp)
 have b6:=m2.at B6.out (by simp)
 have y0:w2.cell? ⟨w.heap.size,0,none⟩=some (.int .i64 c0):=Za b4 rfl
 have y1:w2.cell? ⟨w.heap.size,1,none⟩=some (.int .i64 c1):=Za b4 rfl
 have y2:w2.cell? ⟨w.heap.size,2,none⟩=some (.int .i64 c2):=Za b4 rfl
 have y3:w2.cell? ⟨w.heap.size,3,none⟩=some (.int .i64 c3):=Za b4 rfl
 have z0:w2.cell? ⟨w.heap.size+1,0,none⟩=some (.int .i64 tag):=Za b6 rfl
 have z1:w2.cell? ⟨w.heap.size+1,1,none⟩=some vc:=Za b6 rfl
 have l4:=lt_of_block b4
 have l6:=lt_of_block b6
 have M2:=Zh_ (M1.out.trans m2)
 have B4b:=Zh_ b4
 have B6b:=Zh_ b6
 clear x0 x1 x2 x3 B4 B6 m2 hpl b4 b6
 go_wp2_with fail
 refine (HM.out _ (M2.out.alloc _)).mono ?_;rintro e w3 ⟨p,rfl,hma,m3,hfr⟩
 have M3:=Zh_ ((M2.out.alloc _).trans m3)
 have m23:=((Zr_ [] w2).alloc (.cells #[.int .i64 0,.int .i64 1,.int .i64 2,.int .i64 3,.int .i64 (3+c1),.int .i64 (3+c1+3 * c0)] 74)).trans m3
 have b9:=m3.at (Zc w2 (.cells #[.int .i64 0,.int .i64 1,.int .i64 2,.int .i64 3,.int .i64 (3+c1),.int .i64 (3+c1+3 * c0)] 74)) (by simp)
 have b4:=m23.at B4b.out (by simp)
 have b6:=m23.at B6b.out (by simp)
 have y0:=Za (i:=0) b9 rfl
 have y1:=Za (i:=1) b9 rfl
 have y2:=Za (i:=2) b9 rfl
 have y3:=Za (i:=3) b9 rfl
 have y4:=Za (i:=4) b9 rfl
 have y5:=Za (i:=5) b9 rfl
 have u1:w3.cell? ⟨w.heap.size,1,none⟩=some (.int .i64 c1):=Za b4 rfl
 have u6:w3.cell? ⟨w.heap.size+1,0,none⟩=some (.int .i64 tag):=Za b6 rfl
 have HMA:=Zh_ hma
 have HFR:=Zh_ hfr
 have S23:=Zh_ (show w.heap.size≤w2.heap.size from M2.out.size)
 clear M1 z0 z1 l4 l6 B4b B6b m3 hma hfr m23 b9 b4 b6 HM M2
 go_upto_region 6 with fail
 have W4:Zv (w3.alloc (.cells #[.nilFunc,.int .i64 0,.int .i64 1,.int .i64 2,.int .i64 3,.int .i64 (3+c1),.int .i64 (3+c1+3 * c0),.pointer (some ⟨p.mb,0,none⟩),.int .i64 c1,.int .i64 tag,.slice none 0 0,.int .i64 0,.int .i64 0,.int .u64 0,.int .u64 0,.int .i64 0,.slice none 0 0,.pointer none,.pointer none,.int .i64 0] 161)) ⟨w3.heap.size,p,.slice none 0 0,.slice none 0 0,none,none,0,.nilFunc⟩ (wK c0 c1 c2 c3 tag code args 0):=
  ⟨heap_alloc_new _ _,HMA.out.alloc _,World.ownsRow_nil _ _ _ _,World.ownsRow_nil _ _ _ _,trivial,trivial,by simp [Value.ownBlock],by simp [Value.ownBlock]⟩
 have M4:=Zh_ (M3.out.alloc (.cells #[.nilFunc,.int .i64 0,.int .i64 1,.int .i64 2,.int .i64 3,.int .i64 (3+c1),.int .i64 (3+c1+3 * c0),.pointer (some ⟨p.mb,0,none⟩),.int .i64 c1,.int .i64 tag,.slice none 0 0,.int .i64 0,.int .i64 0,.int .u64 0,.int .u64 0,.int .i64 0,.slice none 0 0,.pointer none,.pointer none,.int .i64 0] 161))
 generalize w3.alloc (.cells #[.nilFunc,.int .i64 0,.int .i64 1,.int .i64 2,.int .i64 3,.int .i64 (3+c1),.int .i64 (3+c1+3 * c0),.pointer (some ⟨p.mb,0,none⟩),.int .i64 c1,.int .i64 tag,.slice none 0 0,.int .i64 0,.int .i64 0,.int .u64 0,.int .u64 0,.int .i64 0,.slice none 0 0,.pointer none,.pointer none,.int .i64 0] 161)=w4 at *
 have hq0:∀ k∈(⟨w3.heap.size,p,.slice none 0 0,.slice none 0 0,none,none,0,.nilFunc⟩:WP).blocks,w.heap.size≤k:=by
  intro k hk
  rw [WP.mem] at hk
  simp only [Value.ownBlock] at hk
  rcases hk with rfl|hk|hk|hk|hk|hk
  ·exact M3.out.size
  ·have:=HFR.out k hk
   simp only [World.size_alloc] at this
   have:=S23.out
   omega
  all_goals simp at hk
 obtain ⟨q0,hq⟩:∃ q0:WP,q0=⟨w3.heap.size,p,.slice none 0 0,.slice none 0 0,none,none,0,.nilFunc⟩:=⟨_,rfl⟩
 rw [←hq] at W4 hq0
 have hk0:q0.k=w3.heap.size:=by rw [hq]
 have hn0:q0.nx=.nilFunc:=by rw [hq]
 have G0:Xc w4 q0 a b (wK c0 c1 c2 c3 tag code args 0) .nilFunc s w4:=by have:=Xc.same W4 (HMEM.out _ M4.out);rw [hn0] at this;exact this
 have HQ:=Zh_ hq0
 have MW4:=Zh_ (HMEM.out _ M4.out)
 have L4:=Zh_ W4
 rw [←hk0]
 clear y0 y1 y2 y3 y4 y5 u1 u6 hq hq0 hk0 hn0 W4 HMA HFR S23 M3 dl dc
 go_wp2_with fail
 go_loopw [50] (fun i wr=>∃ k:Nat,k≤args.length∧i=.int .i64 k∧Xc w4 q0 a b (wK c0 c1 c2 c3 tag code args k) .nilFunc s wr) (fun i _=>args.length - (intOf i).toNat)
 case atStart=>exact ⟨0,Nat.zero_le _,rfl,G0⟩
 case round=>
  obtain ⟨k,hk,rfl,G⟩:=hrel
  clear G0
  by_cases hlt:k < args.length
  ·have mr:Ze [] w wr:=M4.out.then (G.modS MW4.out) (fun g hg=>.inr (HQ.out g hg))
   have ha:=HARGS.out wr mr
   obtain ⟨ga,cga,hga,-⟩:=Yd ha (by omega)
   obtain rfl:aa=some ⟨ga,0,none⟩:=by injection hga
   have hx:(args.map (Value.float .f64))[k]? =some (.float .f64 args[k]):=by simp [hlt]
   have ck:=U2 ha hx
   have lga:=Yr ha (g:=ga) rfl
   have k0:(0:Int)≤(k:Int):=Int.natCast_nonneg _
   have kl:decide (k < args.length)=true:=decide_eq_true hlt
   obtain ⟨v0,cs,hcs,hcs10,hv,hnk,hput⟩:=G.argsV
   obtain ⟨av,cv,rfl⟩:=Zo hv
   have c10:wr.cell? ⟨q0.k,10,none⟩=some (.slice av (wK c0 c1 c2 c3 tag code args k).args.length cv):=Za hcs hcs10
   have hl:(wK c0 c1 c2 c3 tag code args k).args.length=k:=by unfold wK;simp;omega
   have f10:wr.frozen? ⟨q0.k,10,none⟩=false:=Zb hcs
   have hgl:=lt_of_block hcs
   have HCS:=Zh_ hcs
   have HCS10:=Zh_ hcs10
   have HPUT:=Zh_ hput
   have HNK:=Zh_ hnk
   rw [hl] at c10 hv
   have HL:=Zh_ hl
   obtain ⟨i0,hi0,hz0,hz1,hz2⟩:=info_parts Uh
   have GG:=Zh_ G
   clear hga hx ha mr hcs hcs10 hput hnk hl G
   go_wp2_with fail
   go_region_law (first
    |(refine step_append_lies _ rfl (.tmp 58) (.tmp 61) 24 rfl 0 51 i0 (.float .f64 0) 1 8 underlying24 hi0 hz0 hz1 hz2 rfl (by decide) (.slice av k cv) k ((wK c0 c1 c2 c3 tag code args k).args.map (Value.float .f64)) (by simp [Act.eval]) (hv.alloc _) ⟨wr.heap.size,0,none⟩ 1 1 [Value.float .f64 (Zu args[k])] (by simp [Act.eval]) rfl (cell_one_new wr.drew _ 51) (by intro u hu;simp at hu;subst hu;rfl) (by decide) (by unfold maxLen;omega) (by omega) (Nat.zero_le _) _ rfl ?_;intro g5 cap5 w5 ho5 hg5 hat hlt5;have K5:w5.heap[q0.k]? =some (.cells cs 161 (0,0)):=(hg5.block q0.k (by simp;omega) (fun e=>HNK.out q0.k (by rw [HL.out];exact e.symm) rfl)).trans (Zf _ HCS.out);have r10:w5.cell? ⟨q0.k,10,none⟩=some (.slice av k cv):=Za K5 (by rw [HCS10.out,HL.out]);have z10:=Zb (i:=10) K5;have M5:=Zh_ (show Ze (Value.slice av k cv).ownBlock.toList wr w5 from (((Zr_ _ wr).drew).alloc _).grown hg5 (fun g hg=>.inl (by simpa using hg)));have HAT:=Zh_ hat;have HO:=Zh_ ho5;have l10:=lt_of_block K5;clear ho5 hg5 hat hlt5 K5)
    |(go_simp;go_at_call 73;refine (Yp _ _).mono ?_;rintro e w9 ⟨rfl,hw9⟩;have hw9':=hw9.symm;subst hw9'))
   all_goals
    go_wp2
    go_roundw
    case rel=>exact ⟨k+1,by omega,by go_num,by
     have on:Uq wr (.slice av k cv) (.slice (some ⟨g5,0,none⟩) (k+1) cap5):=by
      rcases HAT.out with e|e
      ·exact .inl (by rw [e];rfl)
      ·exact .inr ⟨g5,rfl,by rw [e];simp⟩
     have:=HPUT.out w5 _ (.slice (some ⟨g5,0,none⟩) (k+1) cap5) (Zu args[k]) (by rw [HL.out];exact M5.out) (by rw [HL.out];exact on) (by rw [HL.out];simpa using HO.out) rfl
     rw [wK_succ hlt] at this
     exact this⟩
    case measure=>simp [intOf];omega
  ·have kl:decide (k < args.length)=false:=decide_eq_false hlt
   have hke:k=args.length:=by omega
   subst hke
   have HG:=Zh_ G
   clear G
   go_wp2_with fail
   refine (Vy HG.out 1 (by decide) (by decide)).mono ?_;rintro e w6 ⟨rfl,n6,G6,hn6⟩
   rw [wK_all] at G6
   have HG6:=Zh_ G6
   have HN6:=Zh_ hn6
   clear G6 hn6
   go_wp2
   go_ret
   obtain ⟨r,r1,r2,r3,r4,r5⟩:=HG6.out.grS
   exact ⟨r,by rw [r3];rfl,r1,r4.trans (HN6.out (by decide)),r2,M4.out.then (HG6.out.modS MW4.out) (fun g hg=>.inr (HQ.out g hg)),fun g hg=>(r5 g hg).elim (HQ.out g) (fun hh=>Nat.le_trans M4.out.size hh)⟩
end
end Go.Proofs.YtkhonmhnchdpkaaGreat
