/- A part of the proof; no condition. -/
import Derived.Test.YtkhonmhnchdpkaaGreatP23
set_option maxRecDepth 100000
set_option maxHeartbeats 40000000
namespace Go.Proofs.YtkhonmhnchdpkaaGreat
open Go.RowKit _root_.Go.Proofs.Tryz
section
attribute [local go_sem] Zj
def Nl (n0:Nat) (q:WP) (x:Z2):Nat->Value->World->Prop
 |0,v,_=>v=.pointer (some ⟨q.k,0,none⟩)
 |1,v,_=>v=.pointer (some ⟨q.k,0,none⟩)
 |2,v,_=>v=.pointer (some ⟨q.k,9,none⟩)
 |3,v,_=>v=.int .i64 x.tag
 |4,v,_=>v=.pointer (some ⟨q.k,0,none⟩)
 |5,v,_=>v=.pointer (some ⟨q.k,0,none⟩)
 |6,v,_=>v=.pointer (some ⟨q.k,10,none⟩)
 |7,v,_=>v=q.va
 |8,v,w=>Z8 n0 51 1 x.args.length (x.args.map (Value.float .f64)) v w
 |9,v,_=>v=.pointer (some ⟨q.k,0,none⟩)
 |10,v,_=>v=.pointer (some ⟨q.k,0,none⟩)
 |11,v,_=>v=.pointer (some ⟨q.k,15,none⟩)
 |12,v,_=>v=.int .i64 x.number
 |13,v,_=>v=.pointer (some ⟨q.k,0,none⟩)
 |14,v,_=>v=.pointer (some ⟨q.k,0,none⟩)
 |15,v,_=>v=.pointer (some ⟨q.k,7,none⟩)
 |16,v,_=>v=.pointer (some ⟨q.p.mb,0,none⟩)
 |17,v,w=>Z8 n0 53 2 x.m.reads.length (Yh x.m.reads) v w
 |18,v,_=>v=.pointer (some ⟨q.k,0,none⟩)
 |19,v,_=>v=.pointer (some ⟨q.k,0,none⟩)
 |20,v,_=>v=.pointer (some ⟨q.k,7,none⟩)
 |21,v,_=>v=.pointer (some ⟨q.p.mb,0,none⟩)
 |22,v,w=>Z8 n0 53 2 x.m.buf.order.length (Yh x.m.buf.all) v w
 |23,v,_=>v=.pointer (some ⟨q.k,0,none⟩)
 |24,v,_=>v=.pointer (some ⟨q.k,0,none⟩)
 |25,v,_=>v=.pointer (some ⟨q.k,7,none⟩)
 |26,v,_=>v=.pointer (some ⟨q.p.mb,0,none⟩)
 |27,v,w=>Z8 n0 51 1 x.m.out.length (x.m.out.map (Value.float .f64)) v w
 |28,v,_=>v=.pointer (some ⟨q.k,0,none⟩)
 |29,v,_=>v=.pointer (some ⟨q.k,0,none⟩)
 |30,v,_=>v=.pointer (some ⟨q.k,12,none⟩)
 |31,v,_=>v=.int .i64 q.st
 |32,v,w=>Jt n0 x.tag (-1) x.number q.st x.args x.m v w
 |33,v,w=>Q3 n0 v w
 |_,_,_=>True
theorem Sx (n0:Nat) (q:WP) (x:Z2) (i:Nat) (v:Value) (w w':World) (h:Nl n0 q x i v w) (m:Ze [] w w'):Nl n0 q x i v w':=by
 match i,h with
 |0,h=>exact h
 |1,h=>exact h
 |2,h=>exact h
 |3,h=>exact h
 |4,h=>exact h
 |5,h=>exact h
 |6,h=>exact h
 |7,h=>exact h
 |8,h=>exact Z8.mod h m
 |9,h=>exact h
 |10,h=>exact h
 |11,h=>exact h
 |12,h=>exact h
 |13,h=>exact h
 |14,h=>exact h
 |15,h=>exact h
 |16,h=>exact h
 |17,h=>exact Z8.mod h m
 |18,h=>exact h
 |19,h=>exact h
 |20,h=>exact h
 |21,h=>exact h
 |22,h=>exact Z8.mod h m
 |23,h=>exact h
 |24,h=>exact h
 |25,h=>exact h
 |26,h=>exact h
 |27,h=>exact Z8.mod h m
 |28,h=>exact h
 |29,h=>exact h
 |30,h=>exact h
 |31,h=>exact h
 |32,h=>exact Jt.mod h m
 |33,h=>exact Q3.mod h m
 |i+34,h=>trivial
theorem Cd (n0:Nat) (q:WP) (x:Z2) (i:Nat) (h:34<=i) (v:Value) (w:World):Nl n0 q x i v w:=by
 match i,h with
 |j+34,_=>trivial
variable {w w' w0 w1 w2:World} {p p':MP} {q q':WP} {x x':Z2} {m:Zl} {a b:Nat} {s s':Zh} {S:List Nat}
theorem Re (h:Zx w q x) (ok:Yl x.m) (hal:x.args.length<=4096):Calls Tryz.prog 227 #[.pointer (some ⟨q.k,0,none⟩)] w (J9 w x.told):=by
 have HR0:=Zh_ (λ (wx:World) (D:Ze [] w wx)=>h.mod D (by simp));have HRD:=Zh_ (λ (w1 wx:World) (m1:Ze [] w w1) (hR:Ze [] w1.drew wx)=>h.mod ((m1.drew).trans hR) (by simp));have ZD:=Zh_ (heap_alloc_new w (.cells Ya 50));have HN:=Zh_ (show w.heap.size < (w.alloc (.cells Ya 50)).heap.size by simp);have m1:Ze [] w (w.alloc (.cells Ya 50)):=(Zr_ _ _).alloc _;clear h;go_enter func227,ntmps227;go_upto_region 1 with fail;change Code.wp _ _ _ _ (w.alloc (.cells Ya 50));generalize w.alloc (.cells Ya 50)=w1 at *
 have M1:=Zh_ m1;replace HRD:=Zh_ (λ (wx:World) (hR:Ze [] w1.drew wx)=>HRD.out w1 wx M1.out hR);obtain ⟨n0,hq0⟩:∃ n,n=w1.heap.size:=⟨_,rfl⟩;have hn0:n0<=w1.drew.heap.size:=Nat.le_of_eq hq0;replace HN:=Zh_ (show w.heap.size < n0 by rw [hq0];exact HN.out);clear m1 hq0
 go_cut [3] (λ A wx=>L7 n0 x.tag (-1) x.number q.st x.args x.m A wx/\Ze [] w wx/\wx.heap[w.heap.size]? =some (.cells Ya 50 (0,0)))
 case first=>
  refine Yt (by kernel_rfl) 34 (by rfl) (λ x y=>Ze [] x y) (Nl n0 q x) (by kernel_rfl) (by rfl) (by kernel_rfl) (Sx n0 q x) (λ a=>Zr_ _ _) (λ a b c h k=>h.trans k) ?_ ?_ ?_
  ·exact λ i v w' hv o ho hd=>Vb (m:=34) (by kernel_rfl) (Cd n0 q x) ho hd
  ·intro i o hi ho
   match i,hi with
   |0,_=>
    obtain rfl:=Zo_ ho;intro a wx hR hF hO;have f0:a.eval (.tmp 0)=.pointer (some ⟨q.k,0,none⟩):=hO 0 (by kernel_rfl) (Zm (by kernel_rfl));have e0:=Tv_ f0;clear hF hO;go_simp;exact ⟨Zr_ _ _,rfl⟩
   |1,_=>
    obtain rfl:=Zo_ ho;intro a wx hR hF hO;have f4:a.eval (.tmp 4)=.pointer (some ⟨q.k,0,none⟩):=hF 4 0 _ (by kernel_rfl) rfl rfl;have e4:=Tv_ f4;clear hF hO;go_simp;exact ⟨Zr_ _ _,rfl⟩
   |2,_=>
    obtain rfl:=Zo_ ho;intro a wx hR hF hO;have f5:a.eval (.tmp 5)=.pointer (some ⟨q.k,0,none⟩):=hF 5 1 _ (by kernel_rfl) rfl rfl;have e5:=Tv_ f5;clear hF hO;go_simp;exact ⟨Zr_ _ _,rfl⟩
   |3,_=>
    obtain rfl:=Zo_ ho;intro a wx hR hF hO;have f6:a.eval (.tmp 6)=.pointer (some ⟨q.k,9,none⟩):=hF 6 2 _ (by kernel_rfl) rfl rfl;have e6:=Tv_ f6;clear hF hO;have c0:=((HRD.out wx hR).cell 9 (u:=.int .i64 x.tag) rfl).1;go_simp;exact ⟨Zr_ _ _,rfl⟩
   |4,_=>
    obtain rfl:=Zo_ ho;intro a wx hR hF hO;have f0:a.eval (.tmp 0)=.pointer (some ⟨q.k,0,none⟩):=hO 0 (by kernel_rfl) (Zm (by kernel_rfl));have e0:=Tv_ f0;clear hF hO;go_simp;exact ⟨Zr_ _ _,rfl⟩
   |5,_=>
    obtain rfl:=Zo_ ho;intro a wx hR hF hO;have f8:a.eval (.tmp 8)=.pointer (some ⟨q.k,0,none⟩):=hF 8 4 _ (by kernel_rfl) rfl rfl;have e8:=Tv_ f8;clear hF hO;go_simp;exact ⟨Zr_ _ _,rfl⟩
   |6,_=>
    obtain rfl:=Zo_ ho;intro a wx hR hF hO;have f9:a.eval (.tmp 9)=.pointer (some ⟨q.k,0,none⟩):=hF 9 5 _ (by kernel_rfl) rfl rfl;have e9:=Tv_ f9;clear hF hO;go_simp;exact ⟨Zr_ _ _,rfl⟩
   |7,_=>
    obtain rfl:=Zo_ ho;intro a wx hR hF hO;have f10:a.eval (.tmp 10)=.pointer (some ⟨q.k,10,none⟩):=hF 10 6 _ (by kernel_rfl) rfl rfl;have e10:=Tv_ f10;clear hF hO;have c0:=((HRD.out wx hR).cell 10 (u:=q.va) rfl).1;go_simp;exact ⟨Zr_ _ _,rfl⟩
   |8,_=>
    obtain rfl:=Zo_ ho;intro a wx hR hF hO;have f11:a.eval (.tmp 11)=q.va:=hF 11 7 _ (by kernel_rfl) rfl rfl;have e11:=Tv_ f11;clear hF hO;rcases (HRD.out wx hR).args.2 with ⟨hv,h0⟩|⟨g,cap,cur,hv,-,-⟩
    ·rw [hv] at e11;clear f11;go_simp;have h00:x.args=[]:=List.eq_nil_of_length_eq_zero h0;exact ⟨Zr_ _ _,by rw [h00];exact World.ownsRow_nil _ _ _ _,by simp [Value.ownBlock]⟩
    ·have ho:=(HRD.out wx hR).args;rw [hv] at ho;rw [hv] at f11;clear e11;have hcs:=ho.cells (g:=g) rfl;obtain ⟨i0,hi0,hz0,hz1,hz2⟩:=info_parts Ui;refine Xh _ _ 24 rfl 0 51 i0 (.float .f64 0) 1 8 underlying24 hi0 hz0 hz1 hz2 rfl (by decide) (.slice none 0 0) 0 [] rfl (World.ownsRow_nil _ _ _ _) ⟨g,0,none⟩ x.args.length cap (x.args.map (Value.float .f64)) f11 (by simp) hcs (by intro u hu;simp at hu;obtain ⟨a,_,rfl⟩:=hu;rfl) (by unfold maxLen;omega) (by omega) (Nat.zero_le _) ?_;intro v' w' h2 h3 h5;have hc:=Qv.of (t:=51) (z:=1) (by simpa using h2) h3 h5;obtain ⟨u,hu,hm,hr⟩:=Z8.copied hc (Nat.le_trans hn0 hR.size);obtain rfl:=Ending.returned.inj hu;exact ⟨hm,hr⟩
   |9,_=>
    obtain rfl:=Zo_ ho;intro a wx hR hF hO;have f0:a.eval (.tmp 0)=.pointer (some ⟨q.k,0,none⟩):=hO 0 (by kernel_rfl) (Zm (by kernel_rfl));have e0:=Tv_ f0;clear hF hO;go_simp;exact ⟨Zr_ _ _,rfl⟩
   |10,_=>
    obtain rfl:=Zo_ ho;intro a wx hR hF hO;have f13:a.eval (.tmp 13)=.pointer (some ⟨q.k,0,none⟩):=hF 13 9 _ (by kernel_rfl) rfl rfl;have e13:=Tv_ f13;clear hF hO;go_simp;exact ⟨Zr_ _ _,rfl⟩
   |11,_=>
    obtain rfl:=Zo_ ho;intro a wx hR hF hO;have f14:a.eval (.tmp 14)=.pointer (some ⟨q.k,0,none⟩):=hF 14 10 _ (by kernel_rfl) rfl rfl;have e14:=Tv_ f14;clear hF hO;go_simp;exact ⟨Zr_ _ _,rfl⟩
   |12,_=>
    obtain rfl:=Zo_ ho;intro a wx hR hF hO;have f15:a.eval (.tmp 15)=.pointer (some ⟨q.k,15,none⟩):=hF 15 11 _ (by kernel_rfl) rfl rfl;have e15:=Tv_ f15;clear hF hO;have c0:=((HRD.out wx hR).cell 15 (u:=.int .i64 x.number) rfl).1;go_simp;exact ⟨Zr_ _ _,rfl⟩
   |13,_=>
    obtain rfl:=Zo_ ho;intro a wx hR hF hO;have f0:a.eval (.tmp 0)=.pointer (some ⟨q.k,0,none⟩):=hO 0 (by kernel_rfl) (Zm (by kernel_rfl));have e0:=Tv_ f0;clear hF hO;go_simp;exact ⟨Zr_ _ _,rfl⟩
   |14,_=>
    obtain rfl:=Zo_ ho;intro a wx hR hF hO;have f17:a.eval (.tmp 17)=.pointer (some ⟨q.k,0,none⟩):=hF 17 13 _ (by kernel_rfl) rfl rfl;have e17:=Tv_ f17;clear hF hO;go_simp;exact ⟨Zr_ _ _,rfl⟩
   |15,_=>
    obtain rfl:=Zo_ ho;intro a wx hR hF hO;have f18:a.eval (.tmp 18)=.pointer (some ⟨q.k,0,none⟩):=hF 18 14 _ (by kernel_rfl) rfl rfl;have e18:=Tv_ f18;clear hF hO;go_simp;exact ⟨Zr_ _ _,rfl⟩
   |16,_=>
    obtain rfl:=Zo_ ho;intro a wx hR hF hO;have f19:a.eval (.tmp 19)=.pointer (some ⟨q.k,7,none⟩):=hF 19 15 _ (by kernel_rfl) rfl rfl;have e19:=Tv_ f19;clear hF hO;have c0:=((HRD.out wx hR).cell 7 (u:=.pointer (some ⟨q.p.mb,0,none⟩)) rfl).1;go_simp;exact ⟨Zr_ _ _,rfl⟩
   |17,_=>
    obtain rfl:=Zo_ ho;intro a wx hR hF hO;have f20:a.eval (.tmp 20)=.pointer (some ⟨q.p.mb,0,none⟩):=hF 20 16 _ (by kernel_rfl) rfl rfl;have e20:=Tv_ f20;clear hF hO;go_simp;refine Calls.mono (Rt (HRD.out wx hR).mach (Gz ok)) ?_;rintro e w' hc;obtain ⟨u,rfl,hm,hr⟩:=Z8.copied hc (Nat.le_trans hn0 hR.size);exact ⟨u,rfl,hm,hr⟩
   |18,_=>
    obtain rfl:=Zo_ ho;intro a wx hR hF hO;have f0:a.eval (.tmp 0)=.pointer (some ⟨q.k,0,none⟩):=hO 0 (by kernel_rfl) (Zm (by kernel_rfl));have e0:=Tv_ f0;clear hF hO;go_simp;exact ⟨Zr_ _ _,rfl⟩
   |19,_=>
    obtain rfl:=Zo_ ho;intro a wx hR hF hO;have f22:a.eval (.tmp 22)=.pointer (some ⟨q.k,0,none⟩):=hF 22 18 _ (by kernel_rfl) rfl rfl;have e22:=Tv_ f22;clear hF hO;go_simp;exact ⟨Zr_ _ _,rfl⟩
   |20,_=>
    obtain rfl:=Zo_ ho;intro a wx hR hF hO;have f23:a.eval (.tmp 23)=.pointer (some ⟨q.k,0,none⟩):=hF 23 19 _ (by kernel_rfl) rfl rfl;have e23:=Tv_ f23;clear hF hO;go_simp;exact ⟨Zr_ _ _,rfl⟩
   |21,_=>
    obtain rfl:=Zo_ ho;intro a wx hR hF hO;have f24:a.eval (.tmp 24)=.pointer (some ⟨q.k,7,none⟩):=hF 24 20 _ (by kernel_rfl) rfl rfl;have e24:=Tv_ f24;clear hF hO;have c0:=((HRD.out wx hR).cell 7 (u:=.pointer (some ⟨q.p.mb,0,none⟩)) rfl).1;go_simp;exact ⟨Zr_ _ _,rfl⟩
   |22,_=>
    obtain rfl:=Zo_ ho;intro a wx hR hF hO;have f25:a.eval (.tmp 25)=.pointer (some ⟨q.p.mb,0,none⟩):=hF 25 21 _ (by kernel_rfl) rfl rfl;have e25:=Tv_ f25;clear hF hO;go_simp;refine Calls.mono (Hy (HRD.out wx hR).mach ok.order) ?_;rintro e w' hc;obtain ⟨u,rfl,hm,hr⟩:=Z8.copied hc (Nat.le_trans hn0 hR.size);exact ⟨u,rfl,hm,hr⟩
   |23,_=>
    obtain rfl:=Zo_ ho;intro a wx hR hF hO;have f0:a.eval (.tmp 0)=.pointer (some ⟨q.k,0,none⟩):=hO 0 (by kernel_rfl) (Zm (by kernel_rfl));have e0:=Tv_ f0;clear hF hO;go_simp;exact ⟨Zr_ _ _,rfl⟩
   |24,_=>
    obtain rfl:=Zo_ ho;intro a wx hR hF hO;have f27:a.eval (.tmp 27)=.pointer (some ⟨q.k,0,none⟩):=hF 27 23 _ (by kernel_rfl) rfl rfl;have e27:=Tv_ f27;clear hF hO;go_simp;exact ⟨Zr_ _ _,rfl⟩
   |25,_=>
    obtain rfl:=Zo_ ho;intro a wx hR hF hO;have f28:a.eval (.tmp 28)=.pointer (some ⟨q.k,0,none⟩):=hF 28 24 _ (by kernel_rfl) rfl rfl;have e28:=Tv_ f28;clear hF hO;go_simp;exact ⟨Zr_ _ _,rfl⟩
   |26,_=>
    obtain rfl:=Zo_ ho;intro a wx hR hF hO;have f29:a.eval (.tmp 29)=.pointer (some ⟨q.k,7,none⟩):=hF 29 25 _ (by kernel_rfl) rfl rfl;have e29:=Tv_ f29;clear hF hO;have c0:=((HRD.out wx hR).cell 7 (u:=.pointer (some ⟨q.p.mb,0,none⟩)) rfl).1;go_simp;exact ⟨Zr_ _ _,rfl⟩
   |27,_=>
    obtain rfl:=Zo_ ho;intro a wx hR hF hO;have f30:a.eval (.tmp 30)=.pointer (some ⟨q.p.mb,0,none⟩):=hF 30 26 _ (by kernel_rfl) rfl rfl;have e30:=Tv_ f30;clear hF hO;go_simp;refine Calls.mono (out_c (HRD.out wx hR).mach (out_le ok)) ?_;rintro e w' hc;obtain ⟨u,rfl,hm,hr⟩:=Z8.copied hc (Nat.le_trans hn0 hR.size);exact ⟨u,rfl,hm,hr⟩
   |28,_=>
    obtain rfl:=Zo_ ho;intro a wx hR hF hO;have f0:a.eval (.tmp 0)=.pointer (some ⟨q.k,0,none⟩):=hO 0 (by kernel_rfl) (Zm (by kernel_rfl));have e0:=Tv_ f0;clear hF hO;go_simp;exact ⟨Zr_ _ _,rfl⟩
   |29,_=>
    obtain rfl:=Zo_ ho;intro a wx hR hF hO;have f32:a.eval (.tmp 32)=.pointer (some ⟨q.k,0,none⟩):=hF 32 28 _ (by kernel_rfl) rfl rfl;have e32:=Tv_ f32;clear hF hO;go_simp;exact ⟨Zr_ _ _,rfl⟩
   |30,_=>
    obtain rfl:=Zo_ ho;intro a wx hR hF hO;have f33:a.eval (.tmp 33)=.pointer (some ⟨q.k,0,none⟩):=hF 33 29 _ (by kernel_rfl) rfl rfl;have e33:=Tv_ f33;clear hF hO;go_simp;exact ⟨Zr_ _ _,rfl⟩
   |31,_=>
    obtain rfl:=Zo_ ho;intro a wx hR hF hO;have f34:a.eval (.tmp 34)=.pointer (some ⟨q.k,12,none⟩):=hF 34 30 _ (by kernel_rfl) rfl rfl;have e34:=Tv_ f34;clear hF hO;have c0:=((HRD.out wx hR).cell 12 (u:=.int .i64 q.st) rfl).1;go_simp;exact ⟨Zr_ _ _,rfl⟩
   |32,_=>
    obtain rfl:=Zo_ ho;intro a wx hR hF hO;have f7:a.eval (.tmp 7)=.int .i64 x.tag:=hF 7 3 _ (by kernel_rfl) rfl rfl;have e7:=Tv_ f7;have e12:Z8 n0 51 1 x.args.length (x.args.map (Value.float .f64)) (a.eval (.tmp 12)) wx:=hF 12 8 _ (by kernel_rfl) rfl rfl;have f16:a.eval (.tmp 16)=.int .i64 x.number:=hF 16 12 _ (by kernel_rfl) rfl rfl;have e16:=Tv_ f16;have e21:Z8 n0 53 2 x.m.reads.length (Yh x.m.reads) (a.eval (.tmp 21)) wx:=hF 21 17 _ (by kernel_rfl) rfl rfl;have e26:Z8 n0 53 2 x.m.buf.order.length (Yh x.m.buf.all) (a.eval (.tmp 26)) wx:=hF 26 22 _ (by kernel_rfl) rfl rfl;have e31:Z8 n0 51 1 x.m.out.length (x.m.out.map (Value.float .f64)) (a.eval (.tmp 31)) wx:=hF 31 27 _ (by kernel_rfl) rfl rfl;have f35:a.eval (.tmp 35)=.int .i64 q.st:=hF 35 31 _ (by kernel_rfl) rfl rfl;have e35:=Tv_ f35;clear hF hO;rw [show a.eval (.tmp 12)=a.tmps[12]?.getD undef by simp [Act.eval]] at e12;have r12:=Zh_ e12;obtain ⟨b12,k12,q12⟩:=Zo e12.1;rw [show a.eval (.tmp 21)=a.tmps[21]?.getD undef by simp [Act.eval]] at e21;have r21:=Zh_ e21;obtain ⟨b21,k21,q21⟩:=Zo e21.1;rw [show a.eval (.tmp 26)=a.tmps[26]?.getD undef by simp [Act.eval]] at e26;have r26:=Zh_ e26;obtain ⟨b26,k26,q26⟩:=Zo e26.1;rw [show a.eval (.tmp 31)=a.tmps[31]?.getD undef by simp [Act.eval]] at e31;have r31:=Zh_ e31;obtain ⟨b31,k31,q31⟩:=Zo e31.1;clear e12 e21 e26 e31;go_simp;exact ⟨Zr_ _ _,_,_,_,_,rfl,by have:=r12.out;rw [q12] at this;exact this,by have:=r21.out;rw [q21] at this;exact this,by have:=r26.out;rw [q26] at this;exact this,by have:=r31.out;rw [q31] at this;exact this⟩
   |33,_=>
    obtain rfl:=Zo_ ho;intro a wx hR hF hO;clear hF hO;go_simp;exact ⟨(Zr_ _ _).alloc _,_,rfl,heap_alloc_new _ _,Nat.le_trans hn0 hR.size⟩
   |j+34,hh=>omega
  ·intro vs w2 hR hv;obtain ⟨g5,e5,k5,hg5⟩:Q3 n0 (vs 33) w2:=hv 33 (by decide);obtain ⟨va,vr,vw,vo,e35,ra,rr,rw',ro⟩:Jt n0 x.tag (-1) x.number q.st x.args x.m (vs 32) w2:=hv 32 (by decide);have FIN:=Zh_ (Tp (tag:=x.tag) (mark:=-1) (num:=x.number) (st:=q.st) M1.out hR (Nat.le_of_lt HN.out) k5 hg5 ra rr rw' ro);have K5:=Zh_ k5;have M2:=Zh_ ((Zr_ [] w1).drew.trans hR);have NEg:=Zh_ (show w.heap.size≠g5 from λ e=>by have:=HN.out;omega);have ONE:=Zh_ (Pu (tag:=x.tag) (mark:=-1) (num:=x.number) (st:=q.st) (Y7 ra.1) (Y7 rr.1) (Y7 rw'.1) (Y7 ro.1));clear hg5 ra rr rw' ro hR k5;simp only [Xb,List.take_succ_cons,List.take_zero,Act.put,e5,e35];go_simp;refine wpList_store_row rfl 50 _ _ rfl g5 (U2 x.tag (-1) x.number q.st va vr vw vo) rfl rfl 50 Ya K5.out (by kernel_rfl) rfl ONE.out ?_;go_wp2_with fail;go_meet;exact ⟨FIN.out.1,FIN.out.2,(setRow_other _ _ _ _ NEg.out).trans ((M2.out).at ZD.out (by simp))⟩
 case rest=>
  obtain ⟨⟨g5,va,vr,vw,vo,rfl,K5,hg5,ra,rr,rw',ro⟩,mc,z6⟩:=hcut;have NE:=Zh_ (show g5≠w.heap.size from λ e=>by have:=HN.out;omega);have ONE:=Zh_ (λ (a b c d:Int)=>Bj (tag:=x.tag) (mark:=d) (num:=x.number) (st:=q.st) (a:=a) (b:=b) (c:=c) (Y7 ra.1) (Y7 rr.1) (Y7 rw'.1) (Y7 ro.1));have RA:=Zh_ ra;have RR:=Zh_ rr;have RW:=Zh_ rw';have RO:=Zh_ ro;have HG:=Zh_ hg5;have KD:=Zh_ K5;have MC:=Zh_ mc;have Z0:=Zh_ z6;clear K5 hg5 ra rr rw' ro mc z6;have HRc:=HR0.out _ MC.out;have c11:=(HRc.cell 11 (u:=.int .i64 x.part) rfl).1;have hlt:=lt_of_block HRc.hd
  by_cases h1:1 < x.part
  ·have d1:decide (1 < x.part)=true:=decide_eq_true h1;have c13:=(HRc.cell 13 (u:=.int .u64 x.ticket) rfl).1;have b5:=Za (i:=5) KD.out rfl;have y5:=Zb (i:=5) KD.out;have l5:=lt_of_block KD.out;have m7:Ze [g5] wc (wc.setCell ⟨g5,5,none⟩ (.int .i64 (wrap64 x.ticket))):=(Zr_ _ _).set_own _ _;have K7:=Zh_ (show (wc.setCell ⟨g5,5,none⟩ (.int .i64 (wrap64 x.ticket))).heap[g5]? =some (.cells (U2 x.tag (wrap64 x.ticket) x.number q.st va vr vw vo) 50 (0,0)) from Zd _ KD.out);have RA7:=Zh_ (RA.out.far KD.out (by decide) m7);have RR7:=Zh_ (RR.out.far KD.out (by decide) m7);have RW7:=Zh_ (RW.out.far KD.out (by decide) m7);have RO7:=Zh_ (RO.out.far KD.out (by decide) m7);have Z7:=Zh_ (m7.at Z0.out (by have:=NE.out;simp;omega));have M7:=Zh_ (MC.out.then m7 (λ k hk=>.inr (by have:=HN.out;have:=HG.out;simp at hk;omega)));clear m7 HRc;go_upto_region 4 with fail;clear c11 c13 b5 y5 l5 hlt;generalize (wc.setCell ⟨g5,5,none⟩ (.int .i64 (wrap64 x.ticket)))=w7 at *
   have HRc:=HR0.out _ M7.out;have c11:=(HRc.cell 11 (u:=.int .i64 x.part) rfl).1;have c7:=(HRc.cell 7 (u:=.pointer (some ⟨q.p.mb,0,none⟩)) rfl).1;have hlt:=lt_of_block HRc.hd
   by_cases hp:x.part=9
   ·have d9:(x.part==9)=true:=by simp [hp]
    have hc:=end_c HRc.mach;clear HRc;go_wp2_with fail;refine hc.mono ?_;rintro e w5 ⟨rfl,m5⟩;have KD5:=m5.at K7.out (by simp);have b10:=Za (i:=10) KD5 rfl;have b11:=Za (i:=11) KD5 rfl;have b12:=Za (i:=12) KD5 rfl;have y10:=Zb (i:=10) KD5;have y11:=Zb (i:=11) KD5;have y12:=Zb (i:=12) KD5;have l5:=lt_of_block KD5;have mm5:Ze [g5] w5 (((w5.setCell ⟨g5,10,none⟩ (.int .i64 x.m.how)).setCell ⟨g5,11,none⟩ (.int .i64 x.m.ecode)).setCell ⟨g5,12,none⟩ (.int .i64 x.m.eerr)):=(((Zr_ _ _).set_own _ _).set_own _ _).set_own _ _;have K6:=Zh_ (show (((w5.setCell ⟨g5,10,none⟩ (.int .i64 x.m.how)).setCell ⟨g5,11,none⟩ (.int .i64 x.m.ecode)).setCell ⟨g5,12,none⟩ (.int .i64 x.m.eerr)).heap[g5]? =some (.cells (Qe x.tag (wrap64 x.ticket) x.number q.st x.m.how x.m.ecode x.m.eerr va vr vw vo) 50 (0,0)) from Zd _ (Zd _ (Zd _ KD5)));have RA6:=Zh_ ((RA7.out.mod m5).far KD5 (by decide) mm5);have RR6:=Zh_ ((RR7.out.mod m5).far KD5 (by decide) mm5);have RW6:=Zh_ ((RW7.out.mod m5).far KD5 (by decide) mm5);have RO6:=Zh_ ((RO7.out.mod m5).far KD5 (by decide) mm5);have Z6:=Zh_ (mm5.at (m5.at Z7.out (by simp)) (by have:=NE.out;simp;omega));have M6:=Zh_ ((M7.out.trans m5).then mm5 (λ k hk=>.inr (by have:=HN.out;have:=HG.out;simp at hk;omega)));clear mm5 KD5 m5 hc c11 c7;go_upto_region 6 with fail;refine wp_region_lit ?_;refine wpList_load_row rfl 50 _ rfl g5 rfl 50 (Qe x.tag (wrap64 x.ticket) x.number q.st x.m.how x.m.ecode x.m.eerr va vr vw vo) (0,0) _ K6.out underlying50 rfl (by kernel_rfl) ?_;refine wpList_store_row rfl 50 _ _ rfl w.heap.size (Qe x.tag (wrap64 x.ticket) x.number q.st x.m.how x.m.ecode x.m.eerr va vr vw vo) rfl rfl 50 Ya Z6.out (by kernel_rfl) rfl (ONE.out _ _ _ _) ?_;generalize (((w5.setCell ⟨g5,10,none⟩ (.int .i64 x.m.how)).setCell ⟨g5,11,none⟩ (.int .i64 x.m.ecode)).setCell ⟨g5,12,none⟩ (.int .i64 x.m.eerr))=w6 at *
    go_wp2_with fail;refine bodyPost_ret (v:=.agg (Qe x.tag (wrap64 x.ticket) x.number q.st x.m.how x.m.ecode x.m.eerr va vr vw vo)) (results_cell_row (P:=Tryz.prog) (fn:=Tryz.f227) (p:=2) (ty:=50) rfl _ _ w.heap.size 50 _ (0,0) _ rfl (Y0 Z6.out) underlying50 rfl (by kernel_rfl)) rfl ?_;have mm:Ze [w.heap.size] w6 (w6.setRow w.heap.size (Qe x.tag (wrap64 x.ticket) x.number q.st x.m.how x.m.ecode x.m.eerr va vr vw vo)):=(Zr_ _ _).setRow _ _ (.inl (by simp));have le:=Nat.le_of_lt HN.out;have ht:x.told=⟨0,0,0,x.tag,x.args,(wrap64 x.ticket),x.number,x.m.reads,x.m.buf.all,x.m.out,x.m.how,x.m.ecode,x.m.eerr,0,0⟩:=by unfold Z2.told;simp [hp]
    rw [ht];exact ⟨_,_,_,_,_,rfl,(RA6.out.weak le).far Z6.out (by decide) mm,(RR6.out.weak le).far Z6.out (by decide) mm,(RW6.out.weak le).far Z6.out (by decide) mm,(RO6.out.weak le).far Z6.out (by decide) mm,M6.out.then mm (λ k hk=>.inr (by simp at hk;omega))⟩
   ·have d9:(x.part==9)=false:=by simp [hp]
    have K6:=Zh_ (show w7.heap[g5]? =some (.cells (Qe x.tag (wrap64 x.ticket) x.number q.st 0 0 0 va vr vw vo) 50 (0,0)) from K7.out);have RA6:=RA7;have RR6:=RR7;have RW6:=RW7;have RO6:=RO7;have Z6:=Z7;have M6:=M7;clear HRc;go_upto_region 6 with fail;refine wp_region_lit ?_;refine wpList_load_row rfl 50 _ rfl g5 rfl 50 (Qe x.tag (wrap64 x.ticket) x.number q.st 0 0 0 va vr vw vo) (0,0) _ K6.out underlying50 rfl (by kernel_rfl) ?_;refine wpList_store_row rfl 50 _ _ rfl w.heap.size (Qe x.tag (wrap64 x.ticket) x.number q.st 0 0 0 va vr vw vo) rfl rfl 50 Ya Z6.out (by kernel_rfl) rfl (ONE.out _ _ _ _) ?_;go_wp2_with fail;refine bodyPost_ret (v:=.agg (Qe x.tag (wrap64 x.ticket) x.number q.st 0 0 0 va vr vw vo)) (results_cell_row (P:=Tryz.prog) (fn:=Tryz.f227) (p:=2) (ty:=50) rfl _ _ w.heap.size 50 _ (0,0) _ rfl (Y0 Z6.out) underlying50 rfl (by kernel_rfl)) rfl ?_;have mm:Ze [w.heap.size] w7 (w7.setRow w.heap.size (Qe x.tag (wrap64 x.ticket) x.number q.st 0 0 0 va vr vw vo)):=(Zr_ _ _).setRow _ _ (.inl (by simp));have le:=Nat.le_of_lt HN.out;have ht:x.told=⟨0,0,0,x.tag,x.args,(wrap64 x.ticket),x.number,x.m.reads,x.m.buf.all,x.m.out,0,0,0,0,0⟩:=by unfold Z2.told;simp [hp,h1]
    rw [ht];exact ⟨_,_,_,_,_,rfl,(RA6.out.weak le).far Z6.out (by decide) mm,(RR6.out.weak le).far Z6.out (by decide) mm,(RW6.out.weak le).far Z6.out (by decide) mm,(RO6.out.weak le).far Z6.out (by decide) mm,M6.out.then mm (λ k hk=>.inr (by simp at hk;omega))⟩
  ·have H1:=Zh_ h1;have d1:decide (1 < x.part)=false:=decide_eq_false h1;have hp:x.part≠9:=by omega
   have d9:(x.part==9)=false:=by simp [hp]
   have K6:=Zh_ (show wc.heap[g5]? =some (.cells (Qe x.tag (-1) x.number q.st 0 0 0 va vr vw vo) 50 (0,0)) from KD.out);have RA6:=RA;have RR6:=RR;have RW6:=RW;have RO6:=RO;have Z6:=Z0;have M6:=MC;clear HRc;go_upto_region 6 with fail;refine wp_region_lit ?_;refine wpList_load_row rfl 50 _ rfl g5 rfl 50 (Qe x.tag (-1) x.number q.st 0 0 0 va vr vw vo) (0,0) _ K6.out underlying50 rfl (by kernel_rfl) ?_;refine wpList_store_row rfl 50 _ _ rfl w.heap.size (Qe x.tag (-1) x.number q.st 0 0 0 va vr vw vo) rfl rfl 50 Ya Z6.out (by kernel_rfl) rfl (ONE.out _ _ _ _) ?_;go_wp2_with fail;refine bodyPost_ret (v:=.agg (Qe x.tag (-1) x.number q.st 0 0 0 va vr vw vo)) (results_cell_row (P:=Tryz.prog) (fn:=Tryz.f227) (p:=2) (ty:=50) rfl _ _ w.heap.size 50 _ (0,0) _ rfl (Y0 Z6.out) underlying50 rfl (by kernel_rfl)) rfl ?_;have mm:Ze [w.heap.size] wc (wc.setRow w.heap.size (Qe x.tag (-1) x.number q.st 0 0 0 va vr vw vo)):=(Zr_ _ _).setRow _ _ (.inl (by simp));have le:=Nat.le_of_lt HN.out;have ht:x.told=⟨0,0,0,x.tag,x.args,(-1),x.number,x.m.reads,x.m.buf.all,x.m.out,0,0,0,0,0⟩:=by unfold Z2.told;rw [if_neg (by have:=H1.out;omega)];simp [hp]
   rw [ht];exact ⟨_,_,_,_,_,rfl,(RA6.out.weak le).far Z6.out (by decide) mm,(RR6.out.weak le).far Z6.out (by decide) mm,(RW6.out.weak le).far Z6.out (by decide) mm,(RO6.out.weak le).far Z6.out (by decide) mm,M6.out.then mm (λ k hk=>.inr (by simp at hk;omega))⟩
end
section
attribute [local go_sem] Zj
def Nt (n0:Nat) (q:RP) (x:Yg):Nat->Value->World->Prop
 |0,v,_=>v=.pointer (some ⟨q.k,0,none⟩)
 |1,v,_=>v=.pointer (some ⟨q.k,0,none⟩)
 |2,v,_=>v=.pointer (some ⟨q.k,0,none⟩)
 |3,v,_=>v=.pointer (some ⟨q.k,0,none⟩)
 |4,v,_=>v=.pointer (some ⟨q.k,0,none⟩)
 |5,v,_=>v=.pointer (some ⟨q.k,12,none⟩)
 |6,v,_=>v=.pointer (some ⟨q.cm,0,none⟩)
 |7,v,_=>v=.int .u64 x.com.st
 |8,v,_=>v=.int .i64 (wrap64 x.com.st)
 |9,v,w=>Py n0 {x.told with mark:=wrap64 x.com.st} v w
 |_,_,_=>True
theorem Ao (n0:Nat) (q:RP) (x:Yg) (i:Nat) (v:Value) (w w':World) (h:Nt n0 q x i v w) (m:Ze [] w w'):Nt n0 q x i v w':=by
 match i,h with
 |0,h=>exact h
 |1,h=>exact h
 |2,h=>exact h
 |3,h=>exact h
 |4,h=>exact h
 |5,h=>exact h
 |6,h=>exact h
 |7,h=>exact h
 |8,h=>exact h
 |9,h=>exact Py.mod h m
 |i+10,h=>trivial
theorem Ct (n0:Nat) (q:RP) (x:Yg) (i:Nat) (h:10<=i) (v:Value) (w:World):Nt n0 q x i v w:=by
 match i,h with
 |j+10,_=>trivial
variable {w w' w0 w1 w2:World} {p p':MP} {q q':RP} {x x':Yg} {m:Zl} {a b:Nat} {s s':Zh} {S:List Nat}
theorem rdeed_c (h:Z9 w q x) (ok:Yl x.m) (hal:x.args.length<=4096):Calls Tryz.prog 232 #[.pointer (some ⟨q.k,0,none⟩)] w (J9 w x.told):=by
 have ZD:=Zh_ (heap_alloc_new w (.cells Ya 50));have HN:=Zh_ (show w.heap.size < (w.alloc (.cells Ya 50)).heap.size by simp);have m1:Ze [] w (w.alloc (.cells Ya 50)):=(Zr_ _ _).alloc _;have h1:Z9 (w.alloc (.cells Ya 50)) q x:=h.mod m1 (by simp);clear h
 by_cases hp:x.part=1
 ·have HP:=Zh_ hp;have d1:(x.part==1)=true:=by simp [hp]
  clear hp;go_enter func232,ntmps232;go_upto_region 1 with fail;change Code.wp _ _ _ _ (w.alloc (.cells Ya 50));generalize w.alloc (.cells Ya 50)=w1 at *
  have c9:=(h1.cell 9 (u:=.int .i64 x.part) rfl).1;have hlt:=lt_of_block h1.hd;have hc:=Rn h1 ok hal (-1);have M1:=Zh_ m1;clear m1 h1;go_wp2_with fail;refine hc.mono ?_;rintro e w2 ⟨st,va,vr,vw,vo,rfl,ra,rr,rw',ro,m2⟩;have hd:({x.told with mark:=-1}:Zv)=x.told:=by have:=HP.out;unfold Yg.told;simp [this]
  rw [hd] at ra rr rw' ro;have FIN:=Zh_ (Mg (d:=x.told) (st:=st) M1.out m2 (Nat.le_of_lt HN.out) (m2.at ZD.out (by simp)) ra rr rw' ro);have Z6:=Zh_ (m2.at ZD.out (by simp));have ONE:=Zh_ (Bj (tag:=x.told.tag) (mark:=x.told.mark) (num:=x.told.number) (st:=st) (a:=x.told.how) (b:=x.told.ecode) (c:=x.told.eerr) (Y7 ra.1) (Y7 rr.1) (Y7 rw'.1) (Y7 ro.1));have HD:=Zh_ hd;rw [show (-1:Int)=x.told.mark from by rw [<-hd]];clear hc c9 hlt m2 ra rr rw' ro hd;go_wp2_with (refine wpList_store_row rfl 50 _ _ rfl w.heap.size (Qe x.told.tag x.told.mark x.told.number st x.told.how x.told.ecode x.told.eerr va vr vw vo) rfl rfl 50 Ya Z6.out (by kernel_rfl) rfl ONE.out ?_);refine bodyPost_ret (v:=.agg (Qe x.told.tag x.told.mark x.told.number st x.told.how x.told.ecode x.told.eerr va vr vw vo)) (results_cell_row (P:=Tryz.prog) (fn:=Tryz.f232) (p:=2) (ty:=50) rfl _ _ w.heap.size 50 _ (0,0) _ rfl (Y0 Z6.out) underlying50 rfl (by kernel_rfl)) rfl ?_;exact FIN.out
 ·have d1:(x.part==1)=false:=by simp [hp]
  have HP:=Zh_ hp;clear hp;go_enter func232,ntmps232;go_upto_region 1 with fail;change Code.wp _ _ _ _ (w.alloc (.cells Ya 50));generalize w.alloc (.cells Ya 50)=w1 at *
  have c9:=(h1.cell 9 (u:=.int .i64 x.part) rfl).1;have hlt:=lt_of_block h1.hd;have M1:=Zh_ m1;have HRD:=Zh_ (λ (wx:World) (hR:Ze [] w1.drew wx)=>h1.mod ((Zr_ [] w1).drew.trans hR) (by simp));obtain ⟨n0,hq0⟩:∃ n,n=w1.heap.size:=⟨_,rfl⟩;have hn0:n0<=w1.drew.heap.size:=Nat.le_of_eq hq0;replace HN:=Zh_ (show w.heap.size < n0 by rw [hq0];exact HN.out);clear m1 h1 hq0;go_upto_region 3 with fail;clear c9 hlt;refine Yt (by kernel_rfl) 10 (by rfl) (λ x y=>Ze [] x y) (Nt n0 q x) (by kernel_rfl) (by rfl) (by kernel_rfl) (Ao n0 q x) (λ a=>Zr_ _ _) (λ a b c h k=>h.trans k) ?_ ?_ ?_
  ·exact λ i v w' hv o ho hd=>Vb (m:=10) (by kernel_rfl) (Ct n0 q x) ho hd
  ·intro i o hi ho
   match i,hi with
   |0,_=>
    obtain rfl:=Zo_ ho;intro a wx hR hF hO;have f0:a.eval (.tmp 0)=.pointer (some ⟨q.k,0,none⟩):=hO 0 (by kernel_rfl) (Zm (by kernel_rfl));have e0:=Tv_ f0;clear hF hO;go_simp;exact ⟨Zr_ _ _,rfl⟩
   |1,_=>
    obtain rfl:=Zo_ ho;intro a wx hR hF hO;have f13:a.eval (.tmp 13)=.pointer (some ⟨q.k,0,none⟩):=hF 13 0 _ (by kernel_rfl) rfl rfl;have e13:=Tv_ f13;clear hF hO;go_simp;exact ⟨Zr_ _ _,rfl⟩
   |2,_=>
    obtain rfl:=Zo_ ho;intro a wx hR hF hO;have f14:a.eval (.tmp 14)=.pointer (some ⟨q.k,0,none⟩):=hF 14 1 _ (by kernel_rfl) rfl rfl;have e14:=Tv_ f14;clear hF hO;go_simp;exact ⟨Zr_ _ _,rfl⟩
   |3,_=>
    obtain rfl:=Zo_ ho;intro a wx hR hF hO;have f0:a.eval (.tmp 0)=.pointer (some ⟨q.k,0,none⟩):=hO 0 (by kernel_rfl) (Zm (by kernel_rfl));have e0:=Tv_ f0;clear hF hO;go_simp;exact ⟨Zr_ _ _,rfl⟩
   |4,_=>
    obtain rfl:=Zo_ ho;intro a wx hR hF hO;have f16:a.eval (.tmp 16)=.pointer (some ⟨q.k,0,none⟩):=hF 16 3 _ (by kernel_rfl) rfl rfl;have e16:=Tv_ f16;clear hF hO;go_simp;exact ⟨Zr_ _ _,rfl⟩
   |5,_=>
    obtain rfl:=Zo_ ho;intro a wx hR hF hO;have f17:a.eval (.tmp 17)=.pointer (some ⟨q.k,0,none⟩):=hF 17 4 _ (by kernel_rfl) rfl rfl;have e17:=Tv_ f17;clear hF hO;go_simp;exact ⟨Zr_ _ _,rfl⟩
   |6,_=>
    obtain rfl:=Zo_ ho;intro a wx hR hF hO;have f18:a.eval (.tmp 18)=.pointer (some ⟨q.k,12,none⟩):=hF 18 5 _ (by kernel_rfl) rfl rfl;have e18:=Tv_ f18;clear hF hO;have c0:=((HRD.out wx hR).cell 12 (u:=.pointer (some ⟨q.cm,0,none⟩)) rfl).1;go_simp;exact ⟨Zr_ _ _,rfl⟩
   |7,_=>
    obtain rfl:=Zo_ ho;intro a wx hR hF hO;have f19:a.eval (.tmp 19)=.pointer (some ⟨q.cm,0,none⟩):=hF 19 6 _ (by kernel_rfl) rfl rfl;have e19:=Tv_ f19;clear hF hO;go_simp;exact Calls.mono (Tq _ (HRD.out wx hR).com) (λ e w2 ⟨he,hw⟩=>⟨_,he,by rw [hw];exact Zr_ _ _,rfl⟩)
   |8,_=>
    obtain rfl:=Zo_ ho;intro a wx hR hF hO;have f20:a.eval (.tmp 20)=.int .u64 x.com.st:=hF 20 7 _ (by kernel_rfl) rfl rfl;have e20:=Tv_ f20;clear hF hO;go_simp;exact ⟨Zr_ _ _,congrArg _ (IntWalk.i64_left _)⟩
   |9,_=>
    obtain rfl:=Zo_ ho;intro a wx hR hF hO;have f15:a.eval (.tmp 15)=.pointer (some ⟨q.k,0,none⟩):=hF 15 2 _ (by kernel_rfl) rfl rfl;have e15:=Tv_ f15;have f21:a.eval (.tmp 21)=.int .i64 (wrap64 x.com.st):=hF 21 8 _ (by kernel_rfl) rfl rfl;have e21:=Tv_ f21;clear hF hO;go_simp;refine Calls.mono (Rn (HRD.out wx hR) ok hal (wrap64 x.com.st)) ?_;rintro e w' hc;obtain ⟨u,rfl,hm,hr⟩:=J9.to hc (Nat.le_trans hn0 hR.size);exact ⟨u,rfl,hm,hr⟩
   |j+10,hh=>omega
  ·intro vs w2 hR hv;obtain ⟨st,va,vr,vw,vo,e22,ra,rr,rw',ro⟩:Py n0 {x.told with mark:=wrap64 x.com.st} (vs 9) w2:=hv 9 (by decide);have hd:({x.told with mark:=wrap64 x.com.st}:Zv)=x.told:=by have:=HP.out;unfold Yg.told;simp [this]
   rw [hd] at ra rr rw' ro e22;have m2:Ze [] w1 w2:=(Zr_ [] w1).drew.trans hR;have FIN:=Zh_ (Mg (d:=x.told) (st:=st) M1.out m2 (Nat.le_of_lt HN.out) (m2.at ZD.out (by simp)) ra rr rw' ro);have Z6:=Zh_ (m2.at ZD.out (by simp));have ONE:=Zh_ (Bj (tag:=x.told.tag) (mark:=x.told.mark) (num:=x.told.number) (st:=st) (a:=x.told.how) (b:=x.told.ecode) (c:=x.told.eerr) (Y7 ra.1) (Y7 rr.1) (Y7 rw'.1) (Y7 ro.1));clear m2 ra rr rw' ro hd hR;simp only [Xb,List.take_succ_cons,List.take_zero,Act.put,e22];go_simp;refine wpList_store_row rfl 50 _ _ rfl w.heap.size (Qe x.told.tag x.told.mark x.told.number st x.told.how x.told.ecode x.told.eerr va vr vw vo) rfl rfl 50 Ya Z6.out (by kernel_rfl) rfl ONE.out ?_;go_wp2_with fail;refine bodyPost_ret (v:=.agg (Qe x.told.tag x.told.mark x.told.number st x.told.how x.told.ecode x.told.eerr va vr vw vo)) (results_cell_row (P:=Tryz.prog) (fn:=Tryz.f232) (p:=2) (ty:=50) rfl _ _ w.heap.size 50 _ (0,0) _ rfl (Y0 Z6.out) underlying50 rfl (by kernel_rfl)) rfl ?_;exact FIN.out
end
section
attribute [local go_sem] Zj
attribute [local go_sem] Qa Xk
variable {w w' w0 w1 w2:World} {c0 c1 c2 c3 tag:Int} {code:List Xf} {args:List Nat} {vc va:Value} {a b:Nat} {s:Zh}
theorem Ye {w w':World} {v:Value} {n:Nat} {xs:List Value} {t:TypeId} {z:Nat} (h:w.ownsRow 0 t z v n xs) (m:Ze [] w w'):w'.ownsRow 0 t z v n xs:=Zs h m (by simp)
def wK (c0 c1 c2 c3 tag:Int) (code:List Xf) (args:List Nat) (k:Nat):Z2:={Uo c0 c1 c2 c3 tag code args with args:=(args.take k).map Zt,part:=0}
theorem wK_all:{wK c0 c1 c2 c3 tag code args args.length with part:=1}=Uo c0 c1 c2 c3 tag code args:=by
 unfold wK Uo;simp
theorem wK_succ {k:Nat} (hk:k < args.length):{wK c0 c1 c2 c3 tag code args k with args:=(wK c0 c1 c2 c3 tag code args k).args++[Zt args[k]]}=wK c0 c1 c2 c3 tag code args (k+1):=by
 unfold wK;simp only;rw [List.take_succ_eq_append_getElem hk];simp only [List.map_append,List.map_cons,List.map_nil]
def NewW (w:World) (a b:Nat) (x:Z2) (s:Zh) (e:Ending) (w':World):Prop:=∃ q,e=.returned (.pointer (some ⟨q.k,0,none⟩))/\Zx w' q x/\q.nx=Xe 1/\Zi 137 w' a b s/\Ze [] w w'/\∀ k∈q.blocks,w.heap.size<=k
theorem wnew_c (hcf:Yq c0 c1 c2 c3) (th:Int) (ht0:0<=th) (ht1:th < c1) (hcode:w.ownsRow 0 106 3 vc code.length (Yk code)) (hcl:code.length<=5864062014635) (hargs:w.ownsRow 0 51 1 va args.length (args.map (Value.float .f64))) (hal:args.length<=8) (hM:Zi 137 w a b s):
  Calls Tryz.prog 65 #[.agg #[.int .i64 c0,.int .i64 c1,.int .i64 c2,.int .i64 c3],.int .i64 th,.agg #[.int .i64 tag,vc],va] w (NewW w a b (Uo c0 c1 c2 c3 tag code args) s):=by
 obtain ⟨aa,ca,rfl⟩:=Zo hargs;have dl:decide (th < 0)=false:=decide_eq_false (by omega);have dc:decide (c1<=th)=false:=decide_eq_false (by omega);have b4:((w.alloc (.cells #[.int .i64 c0,.int .i64 c1,.int .i64 c2,.int .i64 c3] 23)).alloc (.cells #[.int .i64 tag,vc] 110)).heap[w.heap.size]? =some (.cells #[.int .i64 c0,.int .i64 c1,.int .i64 c2,.int .i64 c3] 23 (0,0)):=Zf _ (Zc _ _);have b6:((w.alloc (.cells #[.int .i64 c0,.int .i64 c1,.int .i64 c2,.int .i64 c3] 23)).alloc (.cells #[.int .i64 tag,vc] 110)).heap[w.heap.size+1]? =some (.cells #[.int .i64 tag,vc] 110 (0,0)):=Tx w _ _;have M1:=Zh_ (show Ze [] w ((w.alloc (.cells #[.int .i64 c0,.int .i64 c1,.int .i64 c2,.int .i64 c3] 23)).alloc (.cells #[.int .i64 tag,vc] 110)) from ((Zr_ _ _).alloc _).alloc _);have hpl:=λ w=>Vp c0 c1 c2 c3 hcf w;have HM:=Zh_ (λ (wx:World) (m:Ze [] w wx)=>mnew_c (w:=wx) hcf (Ye hcode m) hcl (Ye hargs m) hal (tag:=tag));have HMEM:=Zh_ (λ (wx:World) (m:Ze [] w wx)=>hM.mod m (by simp) (by simp));have HARGS:=Zh_ (λ (wx:World) (m:Ze [] w wx)=>Ye hargs m);clear hcode hargs hcf hM ht0 ht1;go_enter func65,ntmps65;go_upto_region 1 with fail;generalize (w.alloc (.cells #[.int .i64 c0,.int .i64 c1,.int .i64 c2,.int .i64 c3] 23)).alloc (.cells #[.int .i64 tag,vc] 110)=w1 at *
 have x0:=Za (i:=0) b4 rfl;have x1:=Za (i:=1) b4 rfl;have x2:=Za (i:=2) b4 rfl;have x3:=Za (i:=3) b4 rfl;have l4:=lt_of_block b4;have B4:=Zh_ b4;have B6:=Zh_ b6;clear b4 b6;go_wp2_with fail;refine (hpl _).mono ?_;rintro e w2 ⟨rfl,m2⟩;have b4:=m2.at B4.out (by simp);have b6:=m2.at B6.out (by simp);have y0:w2.cell? ⟨w.heap.size,0,none⟩=some (.int .i64 c0):=Za b4 rfl;have y1:w2.cell? ⟨w.heap.size,1,none⟩=some (.int .i64 c1):=Za b4 rfl;have y2:w2.cell? ⟨w.heap.size,2,none⟩=some (.int .i64 c2):=Za b4 rfl;have y3:w2.cell? ⟨w.heap.size,3,none⟩=some (.int .i64 c3):=Za b4 rfl;have z0:w2.cell? ⟨w.heap.size+1,0,none⟩=some (.int .i64 tag):=Za b6 rfl;have z1:w2.cell? ⟨w.heap.size+1,1,none⟩=some vc:=Za b6 rfl;have l4:=lt_of_block b4;have l6:=lt_of_block b6;have M2:=Zh_ (M1.out.trans m2);have B4b:=Zh_ b4;have B6b:=Zh_ b6;clear x0 x1 x2 x3 B4 B6 m2 hpl b4 b6;go_wp2_with fail;refine (HM.out _ (M2.out.alloc _)).mono ?_;rintro e w3 ⟨p,rfl,hma,m3,hfr⟩;have M3:=Zh_ ((M2.out.alloc _).trans m3);have m23:=((Zr_ [] w2).alloc (.cells #[.int .i64 0,.int .i64 1,.int .i64 2,.int .i64 3,.int .i64 (3+c1),.int .i64 (3+c1+3 * c0)] 74)).trans m3;have b9:=m3.at (Zc w2 (.cells #[.int .i64 0,.int .i64 1,.int .i64 2,.int .i64 3,.int .i64 (3+c1),.int .i64 (3+c1+3 * c0)] 74)) (by simp);have b4:=m23.at B4b.out (by simp);have b6:=m23.at B6b.out (by simp);have y0:=Za (i:=0) b9 rfl;have y1:=Za (i:=1) b9 rfl;have y2:=Za (i:=2) b9 rfl;have y3:=Za (i:=3) b9 rfl;have y4:=Za (i:=4) b9 rfl;have y5:=Za (i:=5) b9 rfl;have u1:w3.cell? ⟨w.heap.size,1,none⟩=some (.int .i64 c1):=Za b4 rfl;have u6:w3.cell? ⟨w.heap.size+1,0,none⟩=some (.int .i64 tag):=Za b6 rfl;have HMA:=Zh_ hma;have HFR:=Zh_ hfr;have S23:=Zh_ (show w.heap.size<=w2.heap.size from M2.out.size);clear M1 z0 z1 l4 l6 B4b B6b m3 hma hfr m23 b9 b4 b6 HM M2;go_upto_region 6 with fail;have W4:Zx (w3.alloc (.cells #[.nilFunc,.int .i64 0,.int .i64 1,.int .i64 2,.int .i64 3,.int .i64 (3+c1),.int .i64 (3+c1+3 * c0),.pointer (some ⟨p.mb,0,none⟩),.int .i64 c1,.int .i64 tag,.slice none 0 0,.int .i64 0,.int .i64 0,.int .u64 0,.int .u64 0,.int .i64 0,.slice none 0 0,.pointer none,.pointer none,.int .i64 0] 161)) ⟨w3.heap.size,p,.slice none 0 0,.slice none 0 0,none,none,0,.nilFunc⟩ (wK c0 c1 c2 c3 tag code args 0):=
  ⟨heap_alloc_new _ _,HMA.out.alloc _,World.ownsRow_nil _ _ _ _,World.ownsRow_nil _ _ _ _,trivial,trivial,by simp [Value.ownBlock],by simp [Value.ownBlock]⟩
 have M4:=Zh_ (M3.out.alloc (.cells #[.nilFunc,.int .i64 0,.int .i64 1,.int .i64 2,.int .i64 3,.int .i64 (3+c1),.int .i64 (3+c1+3 * c0),.pointer (some ⟨p.mb,0,none⟩),.int .i64 c1,.int .i64 tag,.slice none 0 0,.int .i64 0,.int .i64 0,.int .u64 0,.int .u64 0,.int .i64 0,.slice none 0 0,.pointer none,.pointer none,.int .i64 0] 161));generalize w3.alloc (.cells #[.nilFunc,.int .i64 0,.int .i64 1,.int .i64 2,.int .i64 3,.int .i64 (3+c1),.int .i64 (3+c1+3 * c0),.pointer (some ⟨p.mb,0,none⟩),.int .i64 c1,.int .i64 tag,.slice none 0 0,.int .i64 0,.int .i64 0,.int .u64 0,.int .u64 0,.int .i64 0,.slice none 0 0,.pointer none,.pointer none,.int .i64 0] 161)=w4 at *
 have hq0:∀ k∈(⟨w3.heap.size,p,.slice none 0 0,.slice none 0 0,none,none,0,.nilFunc⟩:WP).blocks,w.heap.size<=k:=by
  intro k hk;rw [WP.mem] at hk;simp only [Value.ownBlock] at hk;rcases hk with rfl|hk|hk|hk|hk|hk
  ·exact M3.out.size
  ·have:=HFR.out k hk;simp only [World.size_alloc] at this;have:=S23.out;omega
  all_goals simp at hk
 obtain ⟨q0,hq⟩:∃ q0:WP,q0=⟨w3.heap.size,p,.slice none 0 0,.slice none 0 0,none,none,0,.nilFunc⟩:=⟨_,rfl⟩;rw [<-hq] at W4 hq0;have hk0:q0.k=w3.heap.size:=by rw [hq]
 have hn0:q0.nx=.nilFunc:=by rw [hq]
 have G0:Xc w4 q0 a b (wK c0 c1 c2 c3 tag code args 0) .nilFunc s w4:=by have:=Xc.same W4 (HMEM.out _ M4.out);rw [hn0] at this;exact this
 have HQ:=Zh_ hq0;have MW4:=Zh_ (HMEM.out _ M4.out);have L4:=Zh_ W4;rw [<-hk0];clear y0 y1 y2 y3 y4 y5 u1 u6 hq hq0 hk0 hn0 W4 HMA HFR S23 M3 dl dc;go_wp2_with fail
 go_loopw [50] (λ i wr=>∃ k:Nat,k<=args.length/\i=.int .i64 k/\Xc w4 q0 a b (wK c0 c1 c2 c3 tag code args k) .nilFunc s wr) (λ i _=>args.length - (intOf i).toNat)
 case atStart=>exact ⟨0,Nat.zero_le _,rfl,G0⟩
 case round=>
  obtain ⟨k,hk,rfl,G⟩:=hrel;clear G0
  by_cases hlt:k < args.length
  ·have mr:Ze [] w wr:=M4.out.then (G.modS MW4.out) (λ g hg=>.inr (HQ.out g hg));have ha:=HARGS.out wr mr;obtain ⟨ga,cga,hga,-⟩:=Yd ha (by omega);obtain rfl:aa=some ⟨ga,0,none⟩:=by injection hga
   have hx:(args.map (Value.float .f64))[k]? =some (.float .f64 args[k]):=by simp [hlt]
   have ck:=U7 ha hx;have lga:=Ys ha (g:=ga) rfl;have k0:(0:Int)<=(k:Int):=Int.natCast_nonneg _;have kl:decide (k < args.length)=true:=decide_eq_true hlt;obtain ⟨v0,cs,hcs,hcs10,hv,hnk,hput⟩:=G.argsV;obtain ⟨av,cv,rfl⟩:=Zo hv;have c10:wr.cell? ⟨q0.k,10,none⟩=some (.slice av (wK c0 c1 c2 c3 tag code args k).args.length cv):=Za hcs hcs10;have hl:(wK c0 c1 c2 c3 tag code args k).args.length=k:=by unfold wK;simp;omega
   have f10:wr.frozen? ⟨q0.k,10,none⟩=false:=Zb hcs;have hgl:=lt_of_block hcs;have HCS:=Zh_ hcs;have HCS10:=Zh_ hcs10;have HPUT:=Zh_ hput;have HNK:=Zh_ hnk;rw [hl] at c10 hv;have HL:=Zh_ hl;obtain ⟨i0,hi0,hz0,hz1,hz2⟩:=info_parts Ui;have GG:=Zh_ G;clear hga hx ha mr hcs hcs10 hput hnk hl G;go_wp2_with fail
   go_region_law (first
    |(refine step_append_lies _ rfl (.tmp 58) (.tmp 61) 24 rfl 0 51 i0 (.float .f64 0) 1 8 underlying24 hi0 hz0 hz1 hz2 rfl (by decide) (.slice av k cv) k ((wK c0 c1 c2 c3 tag code args k).args.map (Value.float .f64)) (by simp [Act.eval]) (hv.alloc _) ⟨wr.heap.size,0,none⟩ 1 1 [Value.float .f64 (Zt args[k])] (by simp [Act.eval]) rfl (cell_one_new wr.drew _ 51) (by intro u hu;simp at hu;subst hu;rfl) (by decide) (by unfold maxLen;omega) (by omega) (Nat.zero_le _) _ rfl ?_;intro g5 cap5 w5 ho5 hg5 hat hlt5;have K5:w5.heap[q0.k]? =some (.cells cs 161 (0,0)):=(hg5.block q0.k (by simp;omega) (λ e=>HNK.out q0.k (by rw [HL.out];exact e.symm) rfl)).trans (Zf _ HCS.out);have r10:w5.cell? ⟨q0.k,10,none⟩=some (.slice av k cv):=Za K5 (by rw [HCS10.out,HL.out]);have z10:=Zb (i:=10) K5;have M5:=Zh_ (show Ze (Value.slice av k cv).ownBlock.toList wr w5 from (((Zr_ _ wr).drew).alloc _).grown hg5 (λ g hg=>.inl (by simpa using hg)));have HAT:=Zh_ hat;have HO:=Zh_ ho5;have l10:=lt_of_block K5;clear ho5 hg5 hat hlt5 K5)
    |(go_simp;go_at_call 73;refine (Yp _ _).mono ?_;rintro e w9 ⟨rfl,hw9⟩;have hw9':=hw9.symm;subst hw9'))
   all_goals
    go_wp2;go_roundw
    case rel=>exact ⟨k+1,by omega,by go_num,by
     have on:Us wr (.slice av k cv) (.slice (some ⟨g5,0,none⟩) (k+1) cap5):=by
      rcases HAT.out with e|e
      ·exact .inl (by rw [e];rfl)
      ·exact .inr ⟨g5,rfl,by rw [e];simp⟩
     have:=HPUT.out w5 _ (.slice (some ⟨g5,0,none⟩) (k+1) cap5) (Zt args[k]) (by rw [HL.out];exact M5.out) (by rw [HL.out];exact on) (by rw [HL.out];simpa using HO.out) rfl;rw [wK_succ hlt] at this;exact this⟩
    case measure=>simp [intOf];omega
  ·have kl:decide (k < args.length)=false:=decide_eq_false hlt;have hke:k=args.length:=by omega
   subst hke;have HG:=Zh_ G;clear G;go_wp2_with fail;refine (V2 HG.out 1 (by decide) (by decide)).mono ?_;rintro e w6 ⟨rfl,n6,G6,hn6⟩;rw [wK_all] at G6;have HG6:=Zh_ G6;have HN6:=Zh_ hn6;clear G6 hn6;go_wp2;go_ret;obtain ⟨r,r1,r2,r3,r4,r5⟩:=HG6.out.grS;exact ⟨r,by rw [r3];rfl,r1,r4.trans (HN6.out (by decide)),r2,M4.out.then (HG6.out.modS MW4.out) (λ g hg=>.inr (HQ.out g hg)),λ g hg=>(r5 g hg).elim (HQ.out g) (λ hh=>Nat.le_trans M4.out.size hh)⟩
end
section
attribute [local go_sem] Zj
def qc0 (c0 c1 tag th:Int) (mb cm:Nat):Array Value:=#[.int .i64 0,.int .i64 1,.int .i64 2,.int .i64 3,.int .i64 (3+c1),.int .i64 (3+c1+3 * c0),.pointer (some ⟨mb,0,none⟩),.int .i64 tag,.slice none 0 0,.int .i64 1,.int .i64 0,.int .i64 th,.pointer (some ⟨cm,0,none⟩),.pointer none]
def Ni (n0:Nat) (c0 c1 th:Int) (v:Value) (w:World):Prop:=∃ cm,v=.pointer (some ⟨cm,0,none⟩)/\w.heap[cm]? =some (.cells (Pv c0 c1 th).arr 189 (0,0))/\n0<=cm
theorem Ni.mod {n0:Nat} {c0 c1 th:Int} {v:Value} {w w':World} (h:Ni n0 c0 c1 th v w) (m:Ze [] w w'):Ni n0 c0 c1 th v w':=by
 obtain ⟨cm,h1,h2,h3⟩:=h;exact ⟨cm,h1,m.at h2 (by simp),h3⟩
def Fo (n0:Nat) (c0 c1 tag th:Int) (mb:Nat) (v:Value) (w:World):Prop:=∃ cm,v=.agg (qc0 c0 c1 tag th mb cm)/\w.heap[cm]? =some (.cells (Pv c0 c1 th).arr 189 (0,0))/\n0<=cm
theorem Fo.mod {n0:Nat} {c0 c1 tag th:Int} {mb:Nat} {v:Value} {w w':World} (h:Fo n0 c0 c1 tag th mb v w) (m:Ze [] w w'):Fo n0 c0 c1 tag th mb v w':=by
 obtain ⟨cm,h1,h2,h3⟩:=h;exact ⟨cm,h1,m.at h2 (by simp),h3⟩
def L5 (n0:Nat) (c0 c1 tag th:Int) (mb:Nat) (v:Value) (w:World):Prop:=∃ k cm,v=.pointer (some ⟨k,0,none⟩)/\w.heap[k]? =some (.cells (qc0 c0 c1 tag th mb cm) 168 (0,0))/\w.heap[cm]? =some (.cells (Pv c0 c1 th).arr 189 (0,0))/\n0<=k/\n0<=cm
theorem L5.mod {n0:Nat} {c0 c1 tag th:Int} {mb:Nat} {v:Value} {w w':World} (h:L5 n0 c0 c1 tag th mb v w) (m:Ze [] w w'):L5 n0 c0 c1 tag th mb v w':=by
 obtain ⟨k,cm,h1,h2,h3,h4⟩:=h;exact ⟨k,cm,h1,m.at h2 (by simp),m.at h3 (by simp),h4⟩
def rK (c0 c1 c2 c3 th tag:Int) (code:List Xf) (args:List Nat) (k:Nat):Yg:={Up c0 c1 c2 c3 th tag code args with args:=(args.take k).map Zt}
theorem rK_all {c0 c1 c2 c3 th tag:Int} {code:List Xf} {args:List Nat}:rK c0 c1 c2 c3 th tag code args args.length=Up c0 c1 c2 c3 th tag code args:=by
 unfold rK Up;simp
theorem rK_succ {c0 c1 c2 c3 th tag:Int} {code:List Xf} {args:List Nat} {k:Nat} (hk:k < args.length):{rK c0 c1 c2 c3 th tag code args k with args:=(rK c0 c1 c2 c3 th tag code args k).args++[Zt args[k]]}=rK c0 c1 c2 c3 th tag code args (k+1):=by
 unfold rK;simp only;rw [List.take_succ_eq_append_getElem hk];simp only [List.map_append,List.map_cons,List.map_nil]
def NewR (w:World) (a b:Nat) (x:Yg) (s:Zh) (e:Ending) (w':World):Prop:=∃ q,e=.returned (.pointer (some ⟨q.k,0,none⟩))/\Z9 w' q x/\Zi 137 w' a b s/\Ze [] w w'/\∀ k∈q.blocks,w.heap.size<=k
def Rr (n0 mb h6:Nat) (c0 c1 tag th:Int):Nat->Value->World->Prop
 |0,v,_=>v=.agg #[.int .i64 0,.int .i64 1,.int .i64 2,.int .i64 3,.int .i64 (3+c1),.int .i64 (3+c1+3 * c0)]
 |1,v,_=>v=.pointer (some ⟨mb,0,none⟩)
 |2,v,_=>v=.pointer (some ⟨h6,0,none⟩)
 |3,v,_=>v=.int .i64 tag
 |4,v,_=>v=.agg #[.int .i64 0,.int .i64 1,.int .i64 2,.int .i64 3,.int .i64 (3+c1),.int .i64 (3+c1+3 * c0),.pointer (some ⟨mb,0,none⟩),.int .i64 tag,.slice none 0 0,.int .i64 1,.int .i64 0]
 |5,v,_=>v=.int .i64 th
 |6,v,_=>v=.agg #[.int .i64 0,.int .i64 1,.int .i64 2,.int .i64 3,.int .i64 (3+c1),.int .i64 (3+c1+3 * c0)]
 |7,v,_=>v=.int .i64 th
 |8,v,w=>Ni n0 c0 c1 th v w
 |9,v,w=>Fo n0 c0 c1 tag th mb v w
 |10,v,w=>L5 n0 c0 c1 tag th mb v w
 |_,_,_=>True
theorem rnewF_on (n0 mb h6:Nat) (c0 c1 tag th:Int) (i:Nat) (v:Value) (w w':World) (h:Rr n0 mb h6 c0 c1 tag th i v w) (m:Ze [] w w'):Rr n0 mb h6 c0 c1 tag th i v w':=by
 match i,h with
 |0,h=>exact h
 |1,h=>exact h
 |2,h=>exact h
 |3,h=>exact h
 |4,h=>exact h
 |5,h=>exact h
 |6,h=>exact h
 |7,h=>exact h
 |8,h=>exact Ni.mod h m
 |9,h=>exact Fo.mod h m
 |10,h=>exact L5.mod h m
 |i+11,h=>trivial
theorem Ai (n0 mb h6:Nat) (c0 c1 tag th:Int) (i:Nat) (h:11<=i) (v:Value) (w:World):Rr n0 mb h6 c0 c1 tag th i v w:=by
 match i,h with
 |j+11,_=>trivial
variable {w w' w0 w1 w2:World} {c0 c1 c2 c3 tag:Int} {code:List Xf} {args:List Nat} {vc va:Value} {a b:Nat} {s:Zh}
theorem rnew_c (hcf:Yq c0 c1 c2 c3) (th:Int) (ht0:0<=th) (ht1:th < c1) (hcode:w.ownsRow 0 106 3 vc code.length (Yk code)) (hcl:code.length<=5864062014635) (hargs:w.ownsRow 0 51 1 va args.length (args.map (Value.float .f64))) (hal:args.length<=8) (hM:Zi 137 w a b s):
  Calls Tryz.prog 66 #[.agg #[.int .i64 c0,.int .i64 c1,.int .i64 c2,.int .i64 c3],.int .i64 th,.agg #[.int .i64 tag,vc],va] w (NewR w a b (Up c0 c1 c2 c3 th tag code args) s):=by
 obtain ⟨aa,ca,rfl⟩:=Zo hargs;have dl:decide (th < 0)=false:=decide_eq_false (by omega);have dc:decide (c1<=th)=false:=decide_eq_false (by omega);have b4:((w.alloc (.cells #[.int .i64 c0,.int .i64 c1,.int .i64 c2,.int .i64 c3] 23)).alloc (.cells #[.int .i64 tag,vc] 110)).heap[w.heap.size]? =some (.cells #[.int .i64 c0,.int .i64 c1,.int .i64 c2,.int .i64 c3] 23 (0,0)):=Zf _ (Zc _ _);have b6:((w.alloc (.cells #[.int .i64 c0,.int .i64 c1,.int .i64 c2,.int .i64 c3] 23)).alloc (.cells #[.int .i64 tag,vc] 110)).heap[w.heap.size+1]? =some (.cells #[.int .i64 tag,vc] 110 (0,0)):=Tx w _ _;have M1:=Zh_ (show Ze [] w ((w.alloc (.cells #[.int .i64 c0,.int .i64 c1,.int .i64 c2,.int .i64 c3] 23)).alloc (.cells #[.int .i64 tag,vc] 110)) from ((Zr_ _ _).alloc _).alloc _);have hpl:=λ w=>Vp c0 c1 c2 c3 hcf w;have HM:=Zh_ (λ (wx:World) (m:Ze [] w wx)=>mnew_c (w:=wx) hcf (Ye hcode m) hcl (Ye hargs m) hal (tag:=tag));have HMEM:=Zh_ (λ (wx:World) (m:Ze [] w wx)=>hM.mod m (by simp) (by simp));have HARGS:=Zh_ (λ (wx:World) (m:Ze [] w wx)=>Ye hargs m);clear hcode hargs hcf hM ht0 ht1;go_enter func66,ntmps66;go_upto_region 1 with fail;generalize (w.alloc (.cells #[.int .i64 c0,.int .i64 c1,.int .i64 c2,.int .i64 c3] 23)).alloc (.cells #[.int .i64 tag,vc] 110)=w1 at *
 have x0:=Za (i:=0) b4 rfl;have x1:=Za (i:=1) b4 rfl;have x2:=Za (i:=2) b4 rfl;have x3:=Za (i:=3) b4 rfl;have l4:=lt_of_block b4;have B4:=Zh_ b4;have B6:=Zh_ b6;clear b4 b6;go_wp2_with fail;refine (hpl _).mono ?_;rintro e w2 ⟨rfl,m2⟩;have b4:=m2.at B4.out (by simp);have b6:=m2.at B6.out (by simp);have y0:w2.cell? ⟨w.heap.size,0,none⟩=some (.int .i64 c0):=Za b4 rfl;have y1:w2.cell? ⟨w.heap.size,1,none⟩=some (.int .i64 c1):=Za b4 rfl;have y2:w2.cell? ⟨w.heap.size,2,none⟩=some (.int .i64 c2):=Za b4 rfl;have y3:w2.cell? ⟨w.heap.size,3,none⟩=some (.int .i64 c3):=Za b4 rfl;have z0:w2.cell? ⟨w.heap.size+1,0,none⟩=some (.int .i64 tag):=Za b6 rfl;have z1:w2.cell? ⟨w.heap.size+1,1,none⟩=some vc:=Za b6 rfl;have l4:=lt_of_block b4;have l6:=lt_of_block b6;have M2:=Zh_ (M1.out.trans m2);have B4b:=Zh_ b4;have B6b:=Zh_ b6;clear x0 x1 x2 x3 B4 B6 m2 hpl b4 b6;go_wp2_with fail;refine (HM.out _ (M2.out.alloc _)).mono ?_;rintro e w3 ⟨p,rfl,hma,m3,hfr⟩;have M3:=Zh_ ((M2.out.alloc _).trans m3);have m23:=((Zr_ [] w2).alloc (.cells #[.int .i64 0,.int .i64 1,.int .i64 2,.int .i64 3,.int .i64 (3+c1),.int .i64 (3+c1+3 * c0)] 74)).trans m3;have b9:=m3.at (Zc w2 (.cells #[.int .i64 0,.int .i64 1,.int .i64 2,.int .i64 3,.int .i64 (3+c1),.int .i64 (3+c1+3 * c0)] 74)) (by simp);have b4:=m23.at B4b.out (by simp);have b6:=m23.at B6b.out (by simp);have y0:=Za (i:=0) b9 rfl;have y1:=Za (i:=1) b9 rfl;have y2:=Za (i:=2) b9 rfl;have y3:=Za (i:=3) b9 rfl;have y4:=Za (i:=4) b9 rfl;have y5:=Za (i:=5) b9 rfl;have u1:w3.cell? ⟨w.heap.size,1,none⟩=some (.int .i64 c1):=Za b4 rfl;have u6:w3.cell? ⟨w.heap.size+1,0,none⟩=some (.int .i64 tag):=Za b6 rfl;have HMA:=Zh_ hma;have HFR:=Zh_ hfr;have S23:=Zh_ (show w.heap.size<=w2.heap.size from M2.out.size);have KB9:=Zh_ b9;have KB6:=Zh_ b6;clear M1 z0 z1 l4 l6 B4b B6b m3 hma hfr m23 b9 b4 b6 HM M2;obtain ⟨h6,hh6⟩:∃ h,h=w.heap.size+1:=⟨_,rfl⟩;obtain ⟨h9,hh9⟩:∃ h,h=w2.heap.size:=⟨_,rfl⟩;obtain ⟨mb,hmb⟩:∃ h,h=p.mb:=⟨_,rfl⟩;have HK:=Zh_ (λ (wx:World) (hR:Ze [] w3.drew wx)=>(show wx.heap[h9]? =some (.cells #[.int .i64 0,.int .i64 1,.int .i64 2,.int .i64 3,.int .i64 (3+c1),.int .i64 (3+c1+3 * c0)] 74 (0,0))/\wx.heap[h6]? =some (.cells #[.int .i64 tag,vc] 110 (0,0)) from by
  have m:Ze [] w3 wx:=(Zr_ [] w3).drew.trans hR;subst hh6 hh9;exact ⟨m.at KB9.out (by simp),m.at KB6.out (by simp)⟩))
 obtain ⟨n0,hq0⟩:∃ n,n=w3.heap.size:=⟨_,rfl⟩;have hn0:n0<=w3.drew.heap.size:=Nat.le_of_eq hq0;have HN3:=Zh_ hq0;have HMB:=Zh_ hmb;clear y0 y1 y2 y3 y4 y5 u6 hq0;go_upto_region 5 with fail;rw [<-hh6,<-hh9,<-hmb];clear hh6 hh9 hmb u1
 go_cut [12] (λ A wx=>L5 n0 c0 c1 tag th mb A wx/\Ze [] w3 wx)
 case first=>
  refine Yt (by kernel_rfl) 11 (by rfl) (λ x y=>Ze [] x y) (Rr n0 mb h6 c0 c1 tag th) (by kernel_rfl) (by rfl) (by kernel_rfl) (rnewF_on n0 mb h6 c0 c1 tag th) (λ a=>Zr_ _ _) (λ a b c h k=>h.trans k) ?_ ?_ ?_
  ·exact λ i v w' hv o ho hd=>Vb (m:=11) (by kernel_rfl) (Ai n0 mb h6 c0 c1 tag th) ho hd
  ·intro i o hi ho
   match i,hi with
   |0,_=>
    obtain rfl:=Zo_ ho;intro a wx hR hF hO;have f9:a.eval (.tmp 9)=.pointer (some ⟨h9,0,none⟩):=hO 9 (by kernel_rfl) (Zm (by kernel_rfl));have e9:=Tv_ f9;clear hF hO;obtain ⟨K9,K6⟩:=HK.out wx hR;have c0:=Za (i:=0) K9 rfl;have c1:=Za (i:=1) K9 rfl;have c2:=Za (i:=2) K9 rfl;have c3:=Za (i:=3) K9 rfl;have c4:=Za (i:=4) K9 rfl;have c5:=Za (i:=5) K9 rfl;go_simp;exact ⟨Zr_ _ _,rfl⟩
   |1,_=>
    obtain rfl:=Zo_ ho;intro a wx hR hF hO;have f11:a.eval (.tmp 11)=.pointer (some ⟨mb,0,none⟩):=hO 11 (by kernel_rfl) (Zm (by kernel_rfl));have e11:=Tv_ f11;clear hF hO;go_simp;exact ⟨Zr_ _ _,rfl⟩
   |2,_=>
    obtain rfl:=Zo_ ho;intro a wx hR hF hO;have f6:a.eval (.tmp 6)=.pointer (some ⟨h6,0,none⟩):=hO 6 (by kernel_rfl) (Zm (by kernel_rfl));have e6:=Tv_ f6;clear hF hO;go_simp;exact ⟨Zr_ _ _,rfl⟩
   |3,_=>
    obtain rfl:=Zo_ ho;intro a wx hR hF hO;have f42:a.eval (.tmp 42)=.pointer (some ⟨h6,0,none⟩):=hF 42 2 _ (by kernel_rfl) rfl rfl;have e42:=Tv_ f42;clear hF hO;obtain ⟨K9,K6⟩:=HK.out wx hR;have c0:wx.cell? ⟨h6,0,none⟩=some (.int .i64 tag):=Za K6 rfl;go_simp;exact ⟨Zr_ _ _,rfl⟩
   |4,_=>
    obtain rfl:=Zo_ ho;intro a wx hR hF hO;have f40:a.eval (.tmp 40)=.agg #[.int .i64 0,.int .i64 1,.int .i64 2,.int .i64 3,.int .i64 (3+c1),.int .i64 (3+c1+3 * c0)]:=hF 40 0 _ (by kernel_rfl) rfl rfl;have e40:=Tv_ f40;have f41:a.eval (.tmp 41)=.pointer (some ⟨mb,0,none⟩):=hF 41 1 _ (by kernel_rfl) rfl rfl;have e41:=Tv_ f41;have f43:a.eval (.tmp 43)=.int .i64 tag:=hF 43 3 _ (by kernel_rfl) rfl rfl;have e43:=Tv_ f43;clear hF hO;go_simp;exact ⟨Zr_ _ _,rfl⟩
   |5,_=>
    obtain rfl:=Zo_ ho;intro a wx hR hF hO;have f1:a.eval (.tmp 1)=.int .i64 th:=hO 1 (by kernel_rfl) (Zm (by kernel_rfl));have e1:=Tv_ f1;clear hF hO;go_simp;exact ⟨Zr_ _ _,rfl⟩
   |6,_=>
    obtain rfl:=Zo_ ho;intro a wx hR hF hO;have f9:a.eval (.tmp 9)=.pointer (some ⟨h9,0,none⟩):=hO 9 (by kernel_rfl) (Zm (by kernel_rfl));have e9:=Tv_ f9;clear hF hO;obtain ⟨K9,K6⟩:=HK.out wx hR;have c0:=Za (i:=0) K9 rfl;have c1:=Za (i:=1) K9 rfl;have c2:=Za (i:=2) K9 rfl;have c3:=Za (i:=3) K9 rfl;have c4:=Za (i:=4) K9 rfl;have c5:=Za (i:=5) K9 rfl;go_simp;exact ⟨Zr_ _ _,rfl⟩
   |7,_=>
    obtain rfl:=Zo_ ho;intro a wx hR hF hO;have f1:a.eval (.tmp 1)=.int .i64 th:=hO 1 (by kernel_rfl) (Zm (by kernel_rfl));have e1:=Tv_ f1;clear hF hO;go_simp;exact ⟨Zr_ _ _,rfl⟩
   |8,_=>
    obtain rfl:=Zo_ ho;intro a wx hR hF hO;have f46:a.eval (.tmp 46)=.agg #[.int .i64 0,.int .i64 1,.int .i64 2,.int .i64 3,.int .i64 (3+c1),.int .i64 (3+c1+3 * c0)]:=hF 46 6 _ (by kernel_rfl) rfl rfl;have e46:=Tv_ f46;have f47:a.eval (.tmp 47)=.int .i64 th:=hF 47 7 _ (by kernel_rfl) rfl rfl;have e47:=Tv_ f47;clear hF hO;go_simp;refine Calls.mono (come_c 0 1 2 3 (3+c1) (3+c1+3 * c0) th wx) ?_;rintro e w' ⟨rfl,rfl⟩;exact ⟨_,rfl,((Zr_ _ _).alloc _).alloc _,_,rfl,Tx wx _ _,by have:=hR.size;omega⟩
   |9,_=>
    obtain rfl:=Zo_ ho;intro a wx hR hF hO;have f44:a.eval (.tmp 44)=.agg #[.int .i64 0,.int .i64 1,.int .i64 2,.int .i64 3,.int .i64 (3+c1),.int .i64 (3+c1+3 * c0),.pointer (some ⟨mb,0,none⟩),.int .i64 tag,.slice none 0 0,.int .i64 1,.int .i64 0]:=hF 44 4 _ (by kernel_rfl) rfl rfl;have e44:=Tv_ f44;have f45:a.eval (.tmp 45)=.int .i64 th:=hF 45 5 _ (by kernel_rfl) rfl rfl;have e45:=Tv_ f45;have e48:Ni n0 c0 c1 th (a.eval (.tmp 48)) wx:=hF 48 8 _ (by kernel_rfl) rfl rfl;clear hF hO;obtain ⟨cm,q48,k48,n48⟩:=e48;replace q48:a.tmps[48]?.getD undef=_:=(show a.tmps[48]?.getD undef=a.eval (.tmp 48) by simp [Act.eval]).trans q48;have H48:=Zh_ k48;clear k48;go_simp;exact ⟨Zr_ _ _,cm,rfl,H48.out,n48⟩
   |10,_=>
    obtain rfl:=Zo_ ho;intro a wx hR hF hO;have e49:Fo n0 c0 c1 tag th mb (a.eval (.tmp 49)) wx:=hF 49 9 _ (by kernel_rfl) rfl rfl;clear hF hO;obtain ⟨cm,q49,k49,n49⟩:=e49;replace q49:a.tmps[49]?.getD undef=.agg (qc0 c0 c1 tag th mb cm):=(show a.tmps[49]?.getD undef=a.eval (.tmp 49) by simp [Act.eval]).trans q49;have H49:=Zh_ k49;clear k49;go_simp;exact ⟨(Zr_ _ _).alloc _,wx.heap.size,cm,rfl,heap_alloc_new _ _,Zf _ H49.out,Nat.le_trans hn0 hR.size,n49⟩
   |j+11,hh=>omega
  ·intro vs w5 hR hv;have h50:L5 n0 c0 c1 tag th mb (vs 10) w5:=hv 10 (by decide);have H50:=Zh_ h50;have H5:=Zh_ ((Zr_ [] w3).drew.trans hR);obtain ⟨k5,cm5,e50,-⟩:=h50;have HE:=Zh_ e50;clear hR hv;simp only [Xb,List.take_succ_cons,List.take_zero,Act.put];go_simp;go_wp2_with fail;go_meet;exact ⟨by first|exact H50.out|(rw [<-HE.out];exact H50.out),H5.out⟩
 case rest=>
  generalize wc=w4 at *
  obtain ⟨⟨k5,cm,rfl,hk5,hcm,n1,n2⟩,m4⟩:=hcut;have N3:=HN3.out;have hma4:=HMA.out.mod m4 (by simp);have W4:Z9 w4 ⟨k5,p,.slice none 0 0,cm,none,0⟩ (rK c0 c1 c2 c3 th tag code args 0):=
   ⟨by rw [hk5];unfold qc0 Jj;rw [HMB.out];rfl,hma4,World.ownsRow_nil _ _ _ _,hcm,trivial,by simp [Value.ownBlock]⟩
  have M4:=Zh_ (M3.out.trans m4);have hq0:∀ k∈(⟨k5,p,.slice none 0 0,cm,none,0⟩:RP).blocks,w.heap.size<=k:=by
   intro k hk;have s3:=M3.out.size;rw [RP.mem] at hk;simp only [Value.ownBlock] at hk;rcases hk with rfl|rfl|hk|hk|hk
   ·omega
   ·omega
   ·have:=HFR.out k hk;simp only [World.size_alloc] at this;have:=S23.out;omega
   all_goals simp at hk
  obtain ⟨q0,hq⟩:∃ q0:RP,q0=⟨k5,p,.slice none 0 0,cm,none,0⟩:=⟨_,rfl⟩;rw [<-hq] at W4 hq0;have hk0:q0.k=k5:=by rw [hq]
  have G0:Ql w4 q0 a b (rK c0 c1 c2 c3 th tag code args 0) s w4:=Ql.same W4 (HMEM.out _ M4.out);have HQ:=Zh_ hq0;have MW4:=Zh_ (HMEM.out _ M4.out);rw [<-hk0];clear hq hq0 hk0 W4 HMA HFR S23 M3 dl dc hk5 hcm n1 n2 m4 N3 hma4 hn0 HK HN3 HMB;go_wp2_with fail
  go_loopw [53] (λ i wr=>∃ k:Nat,k<=args.length/\i=.int .i64 k/\Ql w4 q0 a b (rK c0 c1 c2 c3 th tag code args k) s wr) (λ i _=>args.length - (intOf i).toNat)
  case atStart=>exact ⟨0,Nat.zero_le _,rfl,G0⟩
  case round=>
   obtain ⟨k,hk,rfl,G⟩:=hrel;clear G0
   by_cases hlt:k < args.length
   ·have mr:Ze [] w wr:=M4.out.then (G.modS MW4.out) (λ g hg=>.inr (HQ.out g hg));have ha:=HARGS.out wr mr;obtain ⟨ga,cga,hga,-⟩:=Yd ha (by omega);obtain rfl:aa=some ⟨ga,0,none⟩:=by injection hga
    have hx:(args.map (Value.float .f64))[k]? =some (.float .f64 args[k]):=by simp [hlt]
    have ck:=U7 ha hx;have lga:=Ys ha (g:=ga) rfl;have k0:(0:Int)<=(k:Int):=Int.natCast_nonneg _;have kl:decide (k < args.length)=true:=decide_eq_true hlt;obtain ⟨v0,cs,hcs,hcs8,hv,hnk,hput⟩:=G.argsV;obtain ⟨av,cv,rfl⟩:=Zo hv;have c8:wr.cell? ⟨q0.k,8,none⟩=some (.slice av (rK c0 c1 c2 c3 th tag code args k).args.length cv):=Za hcs hcs8;have hl:(rK c0 c1 c2 c3 th tag code args k).args.length=k:=by unfold rK;simp;omega
    have f8:wr.frozen? ⟨q0.k,8,none⟩=false:=Zb hcs;have hgl:=lt_of_block hcs;have HCS:=Zh_ hcs;have HCS8:=Zh_ hcs8;have HPUT:=Zh_ hput;have HNK:=Zh_ hnk;rw [hl] at c8 hv;have HL:=Zh_ hl;obtain ⟨i0,hi0,hz0,hz1,hz2⟩:=info_parts Ui;have GG:=Zh_ G;clear hga hx ha mr hcs hcs8 hput hnk hl G;go_wp2_with fail
    go_region_law (first
     |(refine step_append_lies _ rfl (.tmp 62) (.tmp 65) 24 rfl 0 51 i0 (.float .f64 0) 1 8 underlying24 hi0 hz0 hz1 hz2 rfl (by decide) (.slice av k cv) k ((rK c0 c1 c2 c3 th tag code args k).args.map (Value.float .f64)) (by simp [Act.eval]) (hv.alloc _) ⟨wr.heap.size,0,none⟩ 1 1 [Value.float .f64 (Zt args[k])] (by simp [Act.eval]) rfl (cell_one_new wr.drew _ 51) (by intro u hu;simp at hu;subst hu;rfl) (by decide) (by unfold maxLen;omega) (by omega) (Nat.zero_le _) _ rfl ?_;intro g5 cap5 w5 ho5 hg5 hat hlt5;have K5:w5.heap[q0.k]? =some (.cells cs 168 (0,0)):=(hg5.block q0.k (by simp;omega) (λ e=>HNK.out q0.k (by rw [HL.out];exact e.symm) rfl)).trans (Zf _ HCS.out);have r8:w5.cell? ⟨q0.k,8,none⟩=some (.slice av k cv):=Za K5 (by rw [HCS8.out,HL.out]);have z8:=Zb (i:=8) K5;have M5:=Zh_ (show Ze (Value.slice av k cv).ownBlock.toList wr w5 from (((Zr_ _ wr).drew).alloc _).grown hg5 (λ g hg=>.inl (by simpa using hg)));have HAT:=Zh_ hat;have HO:=Zh_ ho5;have l8:=lt_of_block K5;clear ho5 hg5 hat hlt5 K5)
     |(go_simp;go_at_call 73;refine (Yp _ _).mono ?_;rintro e w9 ⟨rfl,hw9⟩;have hw9':=hw9.symm;subst hw9'))
    all_goals
     go_wp2;go_roundw
     case rel=>exact ⟨k+1,by omega,by go_num,by
      have on:Us wr (.slice av k cv) (.slice (some ⟨g5,0,none⟩) (k+1) cap5):=by
       rcases HAT.out with e|e
       ·exact .inl (by rw [e];rfl)
       ·exact .inr ⟨g5,rfl,by rw [e];simp⟩
      have:=HPUT.out w5 _ (.slice (some ⟨g5,0,none⟩) (k+1) cap5) (Zt args[k]) (by rw [HL.out];exact M5.out) (by rw [HL.out];exact on) (by rw [HL.out];simpa using HO.out) rfl;rw [rK_succ hlt] at this;exact this⟩
     case measure=>simp [intOf];omega
   ·have kl:decide (k < args.length)=false:=decide_eq_false hlt;have hke:k=args.length:=by omega
    subst hke;have HG:=Zh_ G;clear G;rw [rK_all] at HG;go_wp2;go_ret;obtain ⟨r,r1,r2,r3,r5⟩:=HG.out.grS;exact ⟨r,by rw [r3];rfl,r1,r2,M4.out.then (HG.out.modS MW4.out) (λ g hg=>.inr (HQ.out g hg)),λ g hg=>(r5 g hg).elim (HQ.out g) (λ hh=>Nat.le_trans M4.out.size hh)⟩
end
section
variable {w0 w w1 w':World} {lab lab':Nat->Nat} {S J:List Nat} {i j n t k:Nat} {v:Value}
def Um (w:World) (lab lab':Nat->Nat):Prop:=∀ n,n < w.heap.size->lab' n=lab n
def Kb (S:List Nat) (w:World) (lab:Nat->Nat) (J:List Nat):Prop:=∀ n∈S,n < w.heap.size->lab n∈J
theorem Kb.nin (h:Kb S w lab J) (hi:i∉J) (hn:lab n=i) (hl:n < w.heap.size):n∉S:=λ hs=>hi (hn ▸ h n hs hl)
theorem Z1:Um w lab lab:=λ _ _=>rfl
def Fu (lab:Nat->Nat) (z i:Nat) (n:Nat):Nat:=if z<=n then i else lab n
theorem Uw (i:Nat):Um w lab (Fu lab w.heap.size i):=λ n hn=>if_neg (by omega)
theorem Ke {z i:Nat} (h:z<=n):Fu lab z i n=i:=if_pos h
def Own (lab:Nat->Nat) (i:Nat) (v:Value):Prop:=∀ g,v.ownBlock=some g->lab g=i
structure Vw (w:World) (lab:Nat->Nat) (i:Nat) (t:TypeId) (z:Nat) (xs:List Value) (n:Nat) (v:Value):Prop where
 row:w.ownsRow 0 t z v n xs
 own:Own lab i v
theorem Vw.carry {t:TypeId} {z n:Nat} {xs:List Value} (h:Vw w lab i t z xs n v) (m:Ze S w w') (hs:Kb S w lab J) (hi:i∉J) (ha:Um w lab lab'):Vw w' lab' i t z xs n v:=
 ⟨Zs h.row m (λ g hg=>hs.nin hi (h.own g hg) (Ys h.row hg)),λ g hg=>(ha g (Ys h.row hg)).trans (h.own g hg)⟩
theorem Vw.nil (t:TypeId) (z:Nat):Vw w lab i t z [] 0 (.slice none 0 0):=⟨World.ownsRow_nil _ _ _ _,by intro g hg;simp [Value.ownBlock] at hg⟩
theorem Km {z:Nat} {l:List (List Value)} (hl:∀ x∈l,x.length=z) {k c:Nat} (hk:k < l.length) (hc:c < z):l.flatten[k * z+c]? =(l.getD k [])[c]?:=by
 induction l generalizing k with
 |nil=>simp at hk
 |cons x l ih=>
  have hx:=hl x (by simp);cases k with
  |zero=>
   simp only [List.flatten_cons,Nat.zero_mul,Nat.zero_add,List.getD_cons_zero];rw [List.getElem?_append_left (by omega)]
  |succ k=>
   simp only [List.flatten_cons,List.getD_cons_succ];rw [List.getElem?_append_right (by rw [hx,Nat.succ_mul];omega),hx,show (k+1) * z+c - z=k * z+c by rw [Nat.succ_mul];omega];exact ih (λ y hy=>hl y (by simp [hy])) (by simp at hk;omega)
theorem flat_set {z:Nat} {l:List (List Value)} (hl:∀ x∈l,x.length=z) {k c:Nat} (hk:k < l.length) (hc:c < z) (u:Value):l.flatten.set (k * z+c) u=(l.set k ((l.getD k []).set c u)).flatten:=by
 induction l generalizing k with
 |nil=>simp at hk
 |cons x l ih=>
  have hx:=hl x (by simp);cases k with
  |zero=>
   simp only [List.flatten_cons,Nat.zero_mul,Nat.zero_add,List.getD_cons_zero,List.set_cons_zero];rw [List.set_append_left _ _ (by omega)]
  |succ k=>
   simp only [List.flatten_cons,List.getD_cons_succ,List.set_cons_succ];rw [List.set_append_right _ _ (by rw [hx,Nat.succ_mul];omega),hx,show (k+1) * z+c - z=k * z+c by rw [Nat.succ_mul];omega];rw [ih (λ y hy=>hl y (by simp [hy])) (by simp at hk;omega)]
def Bb (l:List (Int×List Xf)) (vs:List Value):List Value:=(List.zipWith (λ (p:Int×List Xf) v=>[Value.int .i64 p.1,v]) l vs).flatten
def Bq (l:List (Int×List Nat)) (vs:List Value):List Value:=(List.zipWith (λ (p:Int×List Nat) v=>[Value.int .i64 p.1,v]) l vs).flatten
def Ko (w:World) (lab:Nat->Nat) (i:Nat) (v:Value) (l:List (Int×List Xf)):Prop:=
 ∃ vs:List Value,vs.length=l.length/\Vw w lab i 110 2 (Bb l vs) l.length v/\∀ k,k < l.length->Vw w lab i 106 3 (Yk (l.getD k (0,[])).2) (l.getD k (0,[])).2.length (vs.getD k undef)
def Kr (w:World) (lab:Nat->Nat) (i:Nat) (v:Value) (l:List (Int×List Nat)):Prop:=
 ∃ vs:List Value,vs.length=l.length/\Vw w lab i 63 2 (Bq l vs) l.length v/\∀ k,k < l.length->Vw w lab i 51 1 ((l.getD k (0,[])).2.map (Value.float .f64)) (l.getD k (0,[])).2.length (vs.getD k undef)
theorem Ko.carry {l:List (Int×List Xf)} (h:Ko w lab i v l) (m:Ze S w w') (hs:Kb S w lab J) (hi:i∉J) (ha:Um w lab lab'):Ko w' lab' i v l:=by
 obtain ⟨vs,h1,h2,h3⟩:=h;exact ⟨vs,h1,h2.carry m hs hi ha,λ k hk=>(h3 k hk).carry m hs hi ha⟩
theorem Kr.carry {l:List (Int×List Nat)} (h:Kr w lab i v l) (m:Ze S w w') (hs:Kb S w lab J) (hi:i∉J) (ha:Um w lab lab'):Kr w' lab' i v l:=by
 obtain ⟨vs,h1,h2,h3⟩:=h;exact ⟨vs,h1,h2.carry m hs hi ha,λ k hk=>(h3 k hk).carry m hs hi ha⟩
theorem Kh {α:Type} {f:α->Value} {l:List α} {vs:List Value}:∀ x∈List.zipWith (λ p v=>[f p,v]) l vs,x.length=2:=by
 intro x hx;obtain ⟨k,hk,rfl⟩:=List.mem_iff_getElem.1 hx;simp
theorem progV_at {l:List (Int×List Xf)} {vs:List Value} (hv:vs.length=l.length) {k:Nat} (hk:k < l.length):(Bb l vs)[k * 2]? =some (.int .i64 (l.getD k (0,[])).1)/\(Bb l vs)[k * 2+1]? =some (vs.getD k undef):=by
 have hk':k < vs.length:=by omega
 have e:(List.zipWith (λ (p:Int×List Xf) v=>[Value.int .i64 p.1,v]) l vs).getD k []=[.int .i64 (l.getD k (0,[])).1,vs.getD k undef]:=by
  rw [List.getD_eq_getElem?_getD,List.getElem?_eq_getElem (by simp;omega)];simp [hk,hk']
 constructor
 ·have:=Km (z:=2) (c:=0) (Kh (f:=λ p:Int×List Xf=>Value.int .i64 p.1) (l:=l) (vs:=vs)) (k:=k) (by simp;omega) (by omega);rw [e] at this;exact this
 ·have:=Km (z:=2) (c:=1) (Kh (f:=λ p:Int×List Xf=>Value.int .i64 p.1) (l:=l) (vs:=vs)) (k:=k) (by simp;omega) (by omega);rw [e] at this;exact this
theorem callV_at {l:List (Int×List Nat)} {vs:List Value} (hv:vs.length=l.length) {k:Nat} (hk:k < l.length):(Bq l vs)[k * 2]? =some (.int .i64 (l.getD k (0,[])).1)/\(Bq l vs)[k * 2+1]? =some (vs.getD k undef):=by
 have hk':k < vs.length:=by omega
 have e:(List.zipWith (λ (p:Int×List Nat) v=>[Value.int .i64 p.1,v]) l vs).getD k []=[.int .i64 (l.getD k (0,[])).1,vs.getD k undef]:=by
  rw [List.getD_eq_getElem?_getD,List.getElem?_eq_getElem (by simp;omega)];simp [hk,hk']
 constructor
 ·have:=Km (z:=2) (c:=0) (Kh (f:=λ p:Int×List Nat=>Value.int .i64 p.1) (l:=l) (vs:=vs)) (k:=k) (by simp;omega) (by omega);rw [e] at this;exact this
 ·have:=Km (z:=2) (c:=1) (Kh (f:=λ p:Int×List Nat=>Value.int .i64 p.1) (l:=l) (vs:=vs)) (k:=k) (by simp;omega) (by omega);rw [e] at this;exact this
structure DX where
 (va vr vw vo:Value)
 (st ah fr til:Int)
def X0:DX:=⟨.slice none 0 0,.slice none 0 0,.slice none 0 0,.slice none 0 0,0,0,0,0⟩
def Qc:Zv:=⟨0,0,0,0,[],0,0,[],[],[],0,0,0,0,0⟩
def Z5 (d:Zv) (e:DX):List Value:=[.int .i64 d.th,.int .i64 d.no,.int .i64 d.prog,.int .i64 d.tag,e.va,.int .i64 d.mark,.int .i64 d.number,e.vr,e.vw,e.vo,.int .i64 d.how,.int .i64 d.ecode,.int .i64 d.eerr,.int .i64 d.bgn,.int .i64 d.ended,.int .i64 e.st,.int .i64 e.ah,.int .i64 e.fr,.int .i64 e.til]
structure L8 (w:World) (lab:Nat->Nat) (i:Nat) (d:Zv) (e:DX):Prop where
 ra:Vw w lab i 51 1 (d.args.map (Value.float .f64)) d.args.length e.va
 rr:Vw w lab i 53 2 (Yh d.reads) d.reads.length e.vr
 rw:Vw w lab i 53 2 (Yh d.writes) d.writes.length e.vw
 ro:Vw w lab i 51 1 (d.out.map (Value.float .f64)) d.out.length e.vo
theorem L8.carry {d:Zv} {e:DX} (h:L8 w lab i d e) (m:Ze S w w') (hs:Kb S w lab J) (hi:i∉J) (ha:Um w lab lab'):L8 w' lab' i d e:=
 ⟨h.ra.carry m hs hi ha,h.rr.carry m hs hi ha,h.rw.carry m hs hi ha,h.ro.carry m hs hi ha⟩
def Qq (l:List Zv) (es:List DX):List Value:=(List.zipWith Z5 l es).flatten
structure Jr (w:World) (lab:Nat->Nat) (i j:Nat) (v:Value) (l:List Zv) (es:List DX):Prop where
 len:es.length=l.length
 row:Vw w lab i 50 19 (Qq l es) l.length v
 rows:∀ k,k < l.length->L8 w lab j (l.getD k Qc) (es.getD k X0)
theorem Jr.carry {l:List Zv} {es:List DX} (h:Jr w lab i j v l es) (m:Ze S w w') (hs:Kb S w lab J) (hi:i∉J) (hj:j∉J) (ha:Um w lab lab'):Jr w' lab' i j v l es:=
 ⟨h.len,h.row.carry m hs hi ha,λ k hk=>(h.rows k hk).carry m hs hj ha⟩
theorem Gi {l:List Zv} {es:List DX}:∀ x∈List.zipWith Z5 l es,x.length=19:=by
 intro x hx;obtain ⟨k,hk,rfl⟩:=List.mem_iff_getElem.1 hx;simp [Z5]
theorem Pt {l:List Zv} {es:List DX} (he:es.length=l.length) {k:Nat} (hk:k < l.length):(List.zipWith Z5 l es).getD k []=Z5 (l.getD k Qc) (es.getD k X0):=by
 have hk':k < es.length:=by omega
 rw [List.getD_eq_getElem?_getD,List.getElem?_eq_getElem (by simp;omega)];simp [hk,hk']
theorem Bl {l:List Zv} {es:List DX} (he:es.length=l.length) {k c:Nat} (hk:k < l.length) (hc:c < 19):(Qq l es)[k * 19+c]? =(Z5 (l.getD k Qc) (es.getD k X0))[c]?:=by
 unfold Qq;rw [Km Gi (by simp;omega) hc,Pt he hk]
end
end Go.Proofs.YtkhonmhnchdpkaaGreat
