/- A part of the proof; no condition. -/
import Derived.Test.YtkhonmhnchdpkaaGreatS26
set_option maxRecDepth 100000
set_option maxHeartbeats 40000000
namespace Go.Proofs.YtkhonmhnchdpkaaGreat
open Go.RowKit _root_.Go.Proofs.Tryz
section
attribute [local go_sem] Zi
def qc0 (c0 c1 tag th:Int) (mb cm:Nat):Array Value:=#[.int .i64 0,.int .i64 1,.int .i64 2,.int .i64 3,.int .i64 (3+c1),.int .i64 (3+c1+3 * c0),.pointer (some ⟨mb,0,none⟩),.int .i64 tag,.slice none 0 0,.int .i64 1,.int .i64 0,.int .i64 th,.pointer (some ⟨cm,0,none⟩),.pointer none]
def Dm (n0:Nat) (c0 c1 th:Int) (v:Value) (w:World):Prop:=∃ cm,v=.pointer (some ⟨cm,0,none⟩)∧w.heap[cm]? =some (.cells (Pg c0 c1 th).arr 189 (0,0))∧n0≤cm
theorem Dm.mod {n0:Nat} {c0 c1 th:Int} {v:Value} {w w':World} (h:Dm n0 c0 c1 th v w) (m:Ze [] w w'):Dm n0 c0 c1 th v w':=by
 obtain ⟨cm,h1,h2,h3⟩:=h
 exact ⟨cm,h1,m.at h2 (by simp),h3⟩
def Bz (n0:Nat) (c0 c1 tag th:Int) (mb:Nat) (v:Value) (w:World):Prop:=∃ cm,v=.agg (qc0 c0 c1 tag th mb cm)∧w.heap[cm]? =some (.cells (Pg c0 c1 th).arr 189 (0,0))∧n0≤cm
theorem Bz.mod {n0:Nat} {c0 c1 tag th:Int} {mb:Nat} {v:Value} {w w':World} (h:Bz n0 c0 c1 tag th mb v w) (m:Ze [] w w'):Bz n0 c0 c1 tag th mb v w':=by
 obtain ⟨cm,h1,h2,h3⟩:=h
 exact ⟨cm,h1,m.at h2 (by simp),h3⟩
def Lh (n0:Nat) (c0 c1 tag th:Int) (mb:Nat) (v:Value) (w:World):Prop:=∃ k cm,v=.pointer (some ⟨k,0,none⟩)∧w.heap[k]? =some (.cells (qc0 c0 c1 tag th mb cm) 168 (0,0))∧w.heap[cm]? =some (.cells (Pg c0 c1 th).arr 189 (0,0))∧n0≤k∧n0≤cm
theorem Lh.mod {n0:Nat} {c0 c1 tag th:Int} {mb:Nat} {v:Value} {w w':World} (h:Lh n0 c0 c1 tag th mb v w) (m:Ze [] w w'):Lh n0 c0 c1 tag th mb v w':=by
 obtain ⟨k,cm,h1,h2,h3,h4⟩:=h
 exact ⟨k,cm,h1,m.at h2 (by simp),m.at h3 (by simp),h4⟩
def rK (c0 c1 c2 c3 th tag:Int) (code:List Xf) (args:List Nat) (k:Nat):Yk:={Un c0 c1 c2 c3 th tag code args with args:=(args.take k).map Zu}
theorem rK_all {c0 c1 c2 c3 th tag:Int} {code:List Xf} {args:List Nat}:rK c0 c1 c2 c3 th tag code args args.length=Un c0 c1 c2 c3 th tag code args:=by
 unfold rK Un
 simp
theorem rK_succ {c0 c1 c2 c3 th tag:Int} {code:List Xf} {args:List Nat} {k:Nat} (hk:k < args.length):{rK c0 c1 c2 c3 th tag code args k with args:=(rK c0 c1 c2 c3 th tag code args k).args++[Zu args[k]]}=rK c0 c1 c2 c3 th tag code args (k+1):=by
 unfold rK
 simp only
 rw [List.take_succ_eq_append_getElem hk]
 simp only [List.map_append,List.map_cons,List.map_nil]
def NewR (w:World) (a b:Nat) (x:Yk) (s:Zj) (e:Ending) (w':World):Prop:=∃ q,e=.returned (.pointer (some ⟨q.k,0,none⟩))∧Z9 w' q x∧Zh 137 w' a b s∧Ze [] w w'∧∀ k∈q.blocks,w.heap.size≤k
def Lx (n0 mb h6:Nat) (c0 c1 tag th:Int):Nat→Value→World→Prop
 |0,v,_=>v=.agg #[.int .i64 0,.int .i64 1,.int .i64 2,.int .i64 3,.int .i64 (3+c1),.int .i64 (3+c1+3 * c0)]
 |1,v,_=>v=.pointer (some ⟨mb,0,none⟩)
 |2,v,_=>v=.pointer (some ⟨h6,0,none⟩)
 |3,v,_=>v=.int .i64 tag
 |4,v,_=>v=.agg #[.int .i64 0,.int .i64 1,.int .i64 2,.int .i64 3,.int .i64 (3+c1),.int .i64 (3+c1+3 * c0),.pointer (some ⟨mb,0,none⟩),.int .i64 tag,.slice none 0 0,.int .i64 1,.int .i64 0]
 |5,v,_=>v=.int .i64 th
 |6,v,_=>v=.agg #[.int .i64 0,.int .i64 1,.int .i64 2,.int .i64 3,.int .i64 (3+c1),.int .i64 (3+c1+3 * c0)]
 |7,v,_=>v=.int .i64 th
 |8,v,w=>Dm n0 c0 c1 th v w
 |9,v,w=>Bz n0 c0 c1 tag th mb v w
 |10,v,w=>Lh n0 c0 c1 tag th mb v w
 |_,_,_=>True
theorem rnewF_on (n0 mb h6:Nat) (c0 c1 tag th:Int) (i:Nat) (v:Value) (w w':World) (h:Lx n0 mb h6 c0 c1 tag th i v w) (m:Ze [] w w'):Lx n0 mb h6 c0 c1 tag th i v w':=by
 match i,h with
 |0,h=>exact h
 |1,h=>exact h
 |2,h=>exact h
 |3,h=>exact h
 |4,h=>exact h
 |5,h=>exact h
 |6,h=>exact h
 |7,h=>exact h
 |8,h=>exact Dm.mod h m
 |9,h=>exact Bz.mod h m
 |10,h=>exact Lh.mod h m
 |i+11,h=>trivial
theorem Ss (n0 mb h6:Nat) (c0 c1 tag th:Int) (i:Nat) (h:11≤i) (v:Value) (w:World):Lx n0 mb h6 c0 c1 tag th i v w:=by
 match i,h with
 |j+11,_=>trivial
variable {w w' w0 w1 w2:World} {c0 c1 c2 c3 tag:Int} {code:List Xf} {args:List Nat} {vc va:Value} {a b:Nat} {s:Zj}
theorem rnew_c (hcf:Yt c0 c1 c2 c3) (th:Int) (ht0:0≤th) (ht1:th < c1) (hcode:w.ownsRow 0 106 3 vc code.length (Yj code)) (hcl:code.length≤5864062014635) (hargs:w.ownsRow 0 51 1 va args.length (args.map (Value.float .f64))) (hal:args.length≤8) (hM:Zh 137 w a b s):
  Calls Tryz.prog 66 #[.agg #[.int .i64 c0,.int .i64 c1,.int .i64 c2,.int .i64 c3],.int .i64 th,.agg #[.int .i64 tag,vc],va] w (NewR w a b (Un c0 c1 c2 c3 th tag code args) s):=by
 obtain ⟨aa,ca,rfl⟩:=Zo hargs
 have dl:decide (th < 0)=false:=decide_eq_false (by omega)
 have dc:decide (c1≤th)=false:=decide_eq_false (by omega)
 have b4:((w.alloc (.cells #[.int .i64 c0,.int .i64 c1,.int .i64 c2,.int .i64 c3] 23)).alloc (.cells #[.int .i64 tag,vc] 110)).heap[w.heap.size]? =some (.cells #[.int .i64 c0,.int .i64 c1,.int .i64 c2,.int .i64 c3] 23 (0,0)):=Zf _ (Zc _ _)
 have b6:((w.alloc (.cells #[.int .i64 c0,.int .i64 c1,.int .i64 c2,.int .i64 c3] 23)).alloc (.cells #[.int .i64 tag,vc] 110)).heap[w.heap.size+1]? =some (.cells #[.int .i64 tag,vc] 110 (0,0)):=Mu w _ _
 have M1:=Zh_ (show Ze [] w ((w.alloc (.cells #[.int .i64 c0,.int .i64 c1,.int .i64 c2,.int .i64 c3] 23)).alloc (.cells #[.int .i64 tag,vc] 110)) from ((Zr_ _ _).alloc _).alloc _)
 have hpl:=fun w=>Vn c0 c1 c2 c3 hcf w
 have HM:=Zh_ (fun (wx:World) (m:Ze [] w wx)=>mnew_c (w:=wx) hcf (Ye hcode m) hcl (Ye hargs m) hal (tag:=tag))
 have HMEM:=Zh_ (fun (wx:World) (m:Ze [] w wx)=>hM.mod m (by simp) (by simp))
 have HARGS:=Zh_ (fun (wx:World) (m:Ze [] w wx)=>Ye hargs m)
 clear hcode hargs hcf hM ht0 ht1
 go_enter func66,ntmps66
 go_upto_region 1 with fail
 generalize (w.alloc (.cells #[.int .i64 c0,.int .i64 c1,.int .i64 c2,.int .i64 c3] 23)).alloc (.cells #[.int .i64 tag,vc] 110)=w1 at *
 have x0:=Za (i:=0) b4 rfl
 have x1:=Za (i:=1) b4 rfl
 have x2:=Za (i:=2) b4 rfl
 have x3:=Za (i:=3) b4 rfl
 have l4:=lt_of_block b4
 have B4:=Zh_ b4
 have B6:=Zh_ b6
 clear b4 b6
 go_wp2_with fail
 refine (hpl _).mono ?_;rintro e w2 ⟨rfl,m2⟩
 have b4:=m2.at B4.out (by simp)
 have b6:=m2.at B6.out (by simp)
 have y0:w2.cell? ⟨w.heap.size,0,none⟩=some (.int .i64 c0):=Za b4 rfl
 have y1:w2.cell? ⟨w.heap.size,1,none⟩=some (.int .i64 c1):=Za b4 rfl
 have y2:w2.cell? ⟨w.heap.size,2,none⟩=some (.int .i64 c2):=Za b4 rfl
 have y3:w2.cell? ⟨w.heap.size,3,none⟩=some (.int .i64 c3):=Za b4 rfl
 have z0:w2.cell? ⟨w.heap.size+1,0,none⟩=some (.int .i64 tag):=Za b6 rfl
 have z1:w2.cell? ⟨w.heap.size+1,1,none⟩=some vc:=Za b6 rfl
 have l4:=lt_of_block b4
 have l6:=lt_of_block b6
 have M2:=Zh_ (M1.out.trans m2)
 have B4b:=Zh_ b4
 have B6b:=Zh_ b6
 clear x0 x1 x2 x3 B4 B6 m2 hpl b4 b6
 go_wp2_with fail
 refine (HM.out _ (M2.out.alloc _)).mono ?_;rintro e w3 ⟨p,rfl,hma,m3,hfr⟩
 have M3:=Zh_ ((M2.out.alloc _).trans m3)
 have m23:=((Zr_ [] w2).alloc (.cells #[.int .i64 0,.int .i64 1,.int .i64 2,.int .i64 3,.int .i64 (3+c1),.int .i64 (3+c1+3 * c0)] 74)).trans m3
 have b9:=m3.at (Zc w2 (.cells #[.int .i64 0,.int .i64 1,.int .i64 2,.int .i64 3,.int .i64 (3+c1),.int .i64 (3+c1+3 * c0)] 74)) (by simp)
 have b4:=m23.at B4b.out (by simp)
 have b6:=m23.at B6b.out (by simp)
 have y0:=Za (i:=0) b9 rfl
 have y1:=Za (i:=1) b9 rfl
 have y2:=Za (i:=2) b9 rfl
 have y3:=Za (i:=3) b9 rfl
 have y4:=Za (i:=4) b9 rfl
 have y5:=Za (i:=5) b9 rfl
 have u1:w3.cell? ⟨w.heap.size,1,none⟩=some (.int .i64 c1):=Za b4 rfl
 have u6:w3.cell? ⟨w.heap.size+1,0,none⟩=some (.int .i64 tag):=Za b6 rfl
 have HMA:=Zh_ hma
 have HFR:=Zh_ hfr
 have S23:=Zh_ (show w.heap.size≤w2.heap.size from M2.out.size)
 have KB9:=Zh_ b9
 have KB6:=Zh_ b6
 clear M1 z0 z1 l4 l6 B4b B6b m3 hma hfr m23 b9 b4 b6 HM M2
 obtain ⟨h6,hh6⟩:∃ h,h=w.heap.size+1:=⟨_,rfl⟩
 obtain ⟨h9,hh9⟩:∃ h,h=w2.heap.size:=⟨_,rfl⟩
 obtain ⟨mb,hmb⟩:∃ h,h=p.mb:=⟨_,rfl⟩
 have HK:=Zh_ (fun (wx:World) (hR:Ze [] w3.drew wx)=>(show wx.heap[h9]? =some (.cells #[.int .i64 0,.int .i64 1,.int .i64 2,.int .i64 3,.int .i64 (3+c1),.int .i64 (3+c1+3 * c0)] 74 (0,0))∧wx.heap[h6]? =some (.cells #[.int .i64 tag,vc] 110 (0,0)) from by
  have m:Ze [] w3 wx:=(Zr_ [] w3).drew.trans hR
  subst hh6 hh9
  exact ⟨m.at KB9.out (by simp),m.at KB6.out (by simp)⟩))
 obtain ⟨n0,hq0⟩:∃ n,n=w3.heap.size:=⟨_,rfl⟩
 have hn0:n0≤w3.drew.heap.size:=Nat.le_of_eq hq0
 have HN3:=Zh_ hq0
 have HMB:=Zh_ hmb
 clear y0 y1 y2 y3 y4 y5 u6 hq0
 go_upto_region 5 with fail
 rw [←hh6,←hh9,←hmb]
 clear hh6 hh9 hmb u1
 go_cut [12] (fun A wx=>Lh n0 c0 c1 tag th mb A wx∧Ze [] w3 wx)
 case first=>
  refine Yu (by kernel_rfl) 11 (by rfl) (fun x y=>Ze [] x y) (Lx n0 mb h6 c0 c1 tag th) (by kernel_rfl) (by rfl) (by kernel_rfl) (rnewF_on n0 mb h6 c0 c1 tag th) (fun a=>Zr_ _ _) (fun a b c h k=>h.trans k) ?_ ?_ ?_
  ·exact fun i v w' hv o ho hd=>Q8 (m:=11) (by kernel_rfl) (Ss n0 mb h6 c0 c1 tag th) ho hd
  ·intro i o hi ho
   match i,hi with
   |0,_=>
    obtain rfl:=Zo_ ho
    intro a wx hR hF hO
    have f9:a.eval (.tmp 9)=.pointer (some ⟨h9,0,none⟩):=hO 9 (by kernel_rfl) (Zm (by kernel_rfl))
    have e9:=Tv_ f9
    clear hF hO
    obtain ⟨K9,K6⟩:=HK.out wx hR
    have c0:=Za (i:=0) K9 rfl
    have c1:=Za (i:=1) K9 rfl
    have c2:=Za (i:=2) K9 rfl
    have c3:=Za (i:=3) K9 rfl
    have c4:=Za (i:=4) K9 rfl
    have c5:=Za (i:=5) K9 rfl
    go_simp
    exact ⟨Zr_ _ _,rfl⟩
   |1,_=>
    obtain rfl:=Zo_ ho
    intro a wx hR hF hO
    have f11:a.eval (.tmp 11)=.pointer (some ⟨mb,0,none⟩):=hO 11 (by kernel_rfl) (Zm (by kernel_rfl))
    have e11:=Tv_ f11
    clear hF hO
    go_simp
    exact ⟨Zr_ _ _,rfl⟩
   |2,_=>
    obtain rfl:=Zo_ ho
    intro a wx hR hF hO
    have f6:a.eval (.tmp 6)=.pointer (some ⟨h6,0,none⟩):=hO 6 (by kernel_rfl) (Zm (by kernel_rfl))
    have e6:=Tv_ f6
    clear hF hO
    go_simp
    exact ⟨Zr_ _ _,rfl⟩
   |3,_=>
    obtain rfl:=Zo_ ho
    intro a wx hR hF hO
    have f42:a.eval (.tmp 42)=.pointer (some ⟨h6,0,none⟩):=hF 42 2 _ (by kernel_rfl) rfl rfl
    have e42:=Tv_ f42
    clear hF hO
    obtain ⟨K9,K6⟩:=HK.out wx hR
    have c0:wx.cell? ⟨h6,0,none⟩=some (.int .i64 tag):=Za K6 rfl
    go_simp
    exact ⟨Zr_ _ _,rfl⟩
   |4,_=>
    obtain rfl:=Zo_ ho
    intro a wx hR hF hO
    have f40:a.eval (.tmp 40)=.agg #[.int .i64 0,.int .i64 1,.int .i64 2,.int .i64 3,.int .i64 (3+c1),.int .i64 (3+c1+3 * c0)]:=hF 40 0 _ (by kernel_rfl) rfl rfl
    have e40:=Tv_ f40
    have f41:a.eval (.tmp 41)=.pointer (some ⟨mb,0,none⟩):=hF 41 1 _ (by kernel_rfl) rfl rfl
    have e41:=Tv_ f41
    have f43:a.eval (.tmp 43)=.int .i64 tag:=hF 43 3 _ (by kernel_rfl) rfl rfl
    have e43:=Tv_ f43
    clear hF hO
    go_simp
    exact ⟨Zr_ _ _,rfl⟩
   |5,_=>
    obtain rfl:=Zo_ ho
    intro a wx hR hF hO
    have f1:a.eval (.tmp 1)=.int .i64 th:=hO 1 (by kernel_rfl) (Zm (by kernel_rfl))
    have e1:=Tv_ f1
    clear hF hO
    go_simp
    exact ⟨Zr_ _ _,rfl⟩
   |6,_=>
    obtain rfl:=Zo_ ho
    intro a wx hR hF hO
    have f9:a.eval (.tmp 9)=.pointer (some ⟨h9,0,none⟩):=hO 9 (by kernel_rfl) (Zm (by kernel_rfl))
    have e9:=Tv_ f9
    clear hF hO
    obtain ⟨K9,K6⟩:=HK.out wx hR
    have c0:=Za (i:=0) K9 rfl
    have c1:=Za (i:=1) K9 rfl
    have c2:=Za (i:=2) K9 rfl
    have c3:=Za (i:=3) K9 rfl
    have c4:=Za (i:=4) K9 rfl
    have c5:=Za (i:=5) K9 rfl
    go_simp
    exact ⟨Zr_ _ _,rfl⟩
   |7,_=>
    obtain rfl:=Zo_ ho
    intro a wx hR hF hO
    have f1:a.eval (.tmp 1)=.int .i64 th:=hO 1 (by kernel_rfl) (Zm (by kernel_rfl))
    have e1:=Tv_ f1
    clear hF hO
    go_simp
    exact ⟨Zr_ _ _,rfl⟩
   |8,_=>
    obtain rfl:=Zo_ ho
    intro a wx hR hF hO
    have f46:a.eval (.tmp 46)=.agg #[.int .i64 0,.int .i64 1,.int .i64 2,.int .i64 3,.int .i64 (3+c1),.int .i64 (3+c1+3 * c0)]:=hF 46 6 _ (by kernel_rfl) rfl rfl
    have e46:=Tv_ f46
    have f47:a.eval (.tmp 47)=.int .i64 th:=hF 47 7 _ (by kernel_rfl) rfl rfl
    have e47:=Tv_ f47
    clear hF hO
    go_simp
    refine Calls.mono (come_c 0 1 2 3 (3+c1) (3+c1+3 * c0) th wx) ?_
    rintro e w' ⟨rfl,rfl⟩
    exact ⟨_,rfl,((Zr_ _ _).alloc _).alloc _,_,rfl,Mu wx _ _,by have:=hR.size;omega⟩
   |9,_=>
    obtain rfl:=Zo_ ho
    intro a wx hR hF hO
    have f44:a.eval (.tmp 44)=.agg #[.int .i64 0,.int .i64 1,.int .i64 2,.int .i64 3,.int .i64 (3+c1),.int .i64 (3+c1+3 * c0),.pointer (some ⟨mb,0,none⟩),.int .i64 tag,.slice none 0 0,.int .i64 1,.int .i64 0]:=hF 44 4 _ (by kernel_rfl) rfl rfl
    have e44:=Tv_ f44
    have f45:a.eval (.tmp 45)=.int .i64 th:=hF 45 5 _ (by kernel_rfl) rfl rfl
    have e45:=Tv_ f45
    have e48:Dm n0 c0 c1 th (a.eval (.tmp 48)) wx:=hF 48 8 _ (by kernel_rfl) rfl rfl
    clear hF hO
    obtain ⟨cm,q48,k48,n48⟩:=e48
    replace q48:a.tmps[48]?.getD undef=_:=(show a.tmps[48]?.getD undef=a.eval (.tmp 48) by simp [Act.eval]).trans q48
    have H48:=Zh_ k48
    clear k48
    go_simp
    exact ⟨Zr_ _ _,cm,rfl,H48.out,n48⟩
   |10,_=>
    obtain rfl:=Zo_ ho
    intro a wx hR hF hO
    have e49:Bz n0 c0 c1 tag th mb (a.eval (.tmp 49)) wx:=hF 49 9 _ (by kernel_rfl) rfl rfl
    clear hF hO
    obtain ⟨cm,q49,k49,n49⟩:=e49
    replace q49:a.tmps[49]?.getD undef=.agg (qc0 c0 c1 tag th mb cm):=(show a.tmps[49]?.getD undef=a.eval (.tmp 49) by simp [Act.eval]).trans q49
    have H49:=Zh_ k49
    clear k49
    go_simp
    exact ⟨(Zr_ _ _).alloc _,wx.heap.size,cm,rfl,heap_alloc_new _ _,Zf _ H49.out,Nat.le_trans hn0 hR.size,n49⟩
   |j+11,hh=>omega
  ·intro vs w5 hR hv
   have h50:Lh n0 c0 c1 tag th mb (vs 10) w5:=hv 10 (by decide)
   have H50:=Zh_ h50
   have H5:=Zh_ ((Zr_ [] w3).drew.trans hR)
   obtain ⟨k5,cm5,e50,-⟩:=h50
   have HE:=Zh_ e50
   clear hR hv
   simp only [Xb,List.take_succ_cons,List.take_zero,Act.put]
   go_simp
   go_wp2_with fail
   go_meet
   exact ⟨by first|exact H50.out|(rw [←HE.out];exact H50.out),H5.out⟩
 case rest=>
  generalize wc=w4 at *
  obtain ⟨⟨k5,cm,rfl,hk5,hcm,n1,n2⟩,m4⟩:=hcut
  have N3:=HN3.out
  have hma4:=HMA.out.mod m4 (by simp)
  have W4:Z9 w4 ⟨k5,p,.slice none 0 0,cm,none,0⟩ (rK c0 c1 c2 c3 th tag code args 0):=
   ⟨by rw [hk5];unfold qc0 Je;rw [HMB.out];rfl,hma4,World.ownsRow_nil _ _ _ _,hcm,trivial,by simp [Value.ownBlock]⟩
  have M4:=Zh_ (M3.out.trans m4)
  have hq0:∀ k∈(⟨k5,p,.slice none 0 0,cm,none,0⟩:RP).blocks,w.heap.size≤k:=by
   intro k hk
   have s3:=M3.out.size
   rw [RP.mem] at hk
   simp only [Value.ownBlock] at hk
   rcases hk with rfl|rfl|hk|hk|hk
   ·omega
   ·omega
   ·have:=HFR.out k hk
    simp only [World.size_alloc] at this
    have:=S23.out
    omega
   all_goals simp at hk
  obtain ⟨q0,hq⟩:∃ q0:RP,q0=⟨k5,p,.slice none 0 0,cm,none,0⟩:=⟨_,rfl⟩
  rw [←hq] at W4 hq0
  have hk0:q0.k=k5:=by rw [hq]
  have G0:Qi w4 q0 a b (rK c0 c1 c2 c3 th tag code args 0) s w4:=Qi.same W4 (HMEM.out _ M4.out)
  have HQ:=Zh_ hq0
  have MW4:=Zh_ (HMEM.out _ M4.out)
  rw [←hk0]
  clear hq hq0 hk0 W4 HMA HFR S23 M3 dl dc hk5 hcm n1 n2 m4 N3 hma4 hn0 HK HN3 HMB
  go_wp2_with fail
  go_loopw [53] (fun i wr=>∃ k:Nat,k≤args.length∧i=.int .i64 k∧Qi w4 q0 a b (rK c0 c1 c2 c3 th tag code args k) s wr) (fun i _=>args.length - (intOf i).toNat)
  case atStart=>exact ⟨0,Nat.zero_le _,rfl,G0⟩
  case round=>
   obtain ⟨k,hk,rfl,G⟩:=hrel
   clear G0
   by_cases hlt:k < args.length
   ·have mr:Ze [] w wr:=M4.out.then (G.modS MW4.out) (fun g hg=>.inr (HQ.out g hg))
    have ha:=HARGS.out wr mr
    obtain ⟨ga,cga,hga,-⟩:=Yd ha (by omega)
    obtain rfl:aa=some ⟨ga,0,none⟩:=by injection hga
    have hx:(args.map (Value.float .f64))[k]? =some (.float .f64 args[k]):=by simp [hlt]
    have ck:=U2 ha hx
    have lga:=Yr ha (g:=ga) rfl
    have k0:(0:Int)≤(k:Int):=Int.natCast_nonneg _
    have kl:decide (k < args.length)=true:=decide_eq_true hlt
    obtain ⟨v0,cs,hcs,hcs8,hv,hnk,hput⟩:=G.argsV
    obtain ⟨av,cv,rfl⟩:=Zo hv
    have c8:wr.cell? ⟨q0.k,8,none⟩=some (.slice av (rK c0 c1 c2 c3 th tag code args k).args.length cv):=Za hcs hcs8
    have hl:(rK c0 c1 c2 c3 th tag code args k).args.length=k:=by unfold rK;simp;omega
    have f8:wr.frozen? ⟨q0.k,8,none⟩=false:=Zb hcs
    have hgl:=lt_of_block hcs
    have HCS:=Zh_ hcs
    have HCS8:=Zh_ hcs8
    have HPUT:=Zh_ hput
    have HNK:=Zh_ hnk
    rw [hl] at c8 hv
    have HL:=Zh_ hl
    obtain ⟨i0,hi0,hz0,hz1,hz2⟩:=info_parts Uh
    have GG:=Zh_ G
    clear hga hx ha mr hcs hcs8 hput hnk hl G
    go_wp2_with fail
    go_region_law (first
     |(refine step_append_lies _ rfl (.tmp 62) (.tmp 65) 24 rfl 0 51 i0 (.float .f64 0) 1 8 underlying24 hi0 hz0 hz1 hz2 rfl (by decide) (.slice av k cv) k ((rK c0 c1 c2 c3 th tag code args k).args.map (Value.float .f64)) (by simp [Act.eval]) (hv.alloc _) ⟨wr.heap.size,0,none⟩ 1 1 [Value.float .f64 (Zu args[k])] (by simp [Act.eval]) rfl (cell_one_new wr.drew _ 51) (by intro u hu;simp at hu;subst hu;rfl) (by decide) (by unfold maxLen;omega) (by omega) (Nat.zero_le _) _ rfl ?_;intro g5 cap5 w5 ho5 hg5 hat hlt5;have K5:w5.heap[q0.k]? =some (.cells cs 168 (0,0)):=(hg5.block q0.k (by simp;omega) (fun e=>HNK.out q0.k (by rw [HL.out];exact e.symm) rfl)).trans (Zf _ HCS.out);have r8:w5.cell? ⟨q0.k,8,none⟩=some (.slice av k cv):=Za K5 (by rw [HCS8.out,HL.out]);have z8:=Zb (i:=8) K5;have M5:=Zh_ (show Ze (Value.slice av k cv).ownBlock.toList wr w5 from (((Zr_ _ wr).drew).alloc _).grown hg5 (fun g hg=>.inl (by simpa using hg)));have HAT:=Zh_ hat;have HO:=Zh_ ho5;have l8:=lt_of_block K5;clear ho5 hg5 hat hlt5 K5)
     |(go_simp;go_at_call 73;refine (Yp _ _).mono ?_;rintro e w9 ⟨rfl,hw9⟩;have hw9':=hw9.symm;subst hw9'))
    all_goals
     go_wp2
     go_roundw
     case rel=>exact ⟨k+1,by omega,by go_num,by
      have on:Uq wr (.slice av k cv) (.slice (some ⟨g5,0,none⟩) (k+1) cap5):=by
       rcases HAT.out with e|e
       ·exact .inl (by rw [e];rfl)
       ·exact .inr ⟨g5,rfl,by rw [e];simp⟩
      have:=HPUT.out w5 _ (.slice (some ⟨g5,0,none⟩) (k+1) cap5) (Zu args[k]) (by rw [HL.out];exact M5.out) (by rw [HL.out];exact on) (by rw [HL.out];simpa using HO.out) rfl
      rw [rK_succ hlt] at this
      exact this⟩
     case measure=>simp [intOf];omega
   ·have kl:decide (k < args.length)=false:=decide_eq_false hlt
    have hke:k=args.length:=by omega
    subst hke
    have HG:=Zh_ G
    clear G
    rw [rK_all] at HG
    go_wp2
    go_ret
    obtain ⟨r,r1,r2,r3,r5⟩:=HG.out.grS
    exact ⟨r,by rw [r3];rfl,r1,r2,M4.out.then (HG.out.modS MW4.out) (fun g hg=>.inr (HQ.out g hg)),fun g hg=>(r5 g hg).elim (HQ.out g) (fun hh=>Nat.le_trans M4.out.size hh)⟩
end
section
variable {w0 w w1 w':World} {lab lab':Nat→Nat} {S J:List Nat} {i j n t k:Nat} {v:Value}
def Uk (w:World) (lab lab':Nat→Nat):Prop:=∀ n,n < w.heap.size→lab' n=lab n
def J4 (S:List Nat) (w:World) (lab:Nat→Nat) (J:List Nat):Prop:=∀ n∈S,n < w.heap.size→lab n∈J
theorem J4.nin (h:J4 S w lab J) (hi:i∉J) (hn:lab n=i) (hl:n < w.heap.size):n∉S:=fun hs=>hi (hn ▸ h n hs hl)
theorem Zz:Uk w lab lab:=fun _ _=>rfl
def Ff (lab:Nat→Nat) (z i:Nat) (n:Nat):Nat:=if z≤n then i else lab n
theorem Ut (i:Nat):Uk w lab (Ff lab w.heap.size i):=fun n hn=>if_neg (by omega)
theorem J7 {z i:Nat} (h:z≤n):Ff lab z i n=i:=if_pos h
def Own (lab:Nat→Nat) (i:Nat) (v:Value):Prop:=∀ g,v.ownBlock=some g→lab g=i
structure Vt (w:World) (lab:Nat→Nat) (i:Nat) (t:TypeId) (z:Nat) (xs:List Value) (n:Nat) (v:Value):Prop where
 row:w.ownsRow 0 t z v n xs
 own:Own lab i v
theorem Vt.carry {t:TypeId} {z n:Nat} {xs:List Value} (h:Vt w lab i t z xs n v) (m:Ze S w w') (hs:J4 S w lab J) (hi:i∉J) (ha:Uk w lab lab'):Vt w' lab' i t z xs n v:=
 ⟨Zs h.row m (fun g hg=>hs.nin hi (h.own g hg) (Yr h.row hg)),fun g hg=>(ha g (Yr h.row hg)).trans (h.own g hg)⟩
theorem Vt.nil (t:TypeId) (z:Nat):Vt w lab i t z [] 0 (.slice none 0 0):=⟨World.ownsRow_nil _ _ _ _,by intro g hg;simp [Value.ownBlock] at hg⟩
theorem Ke {z:Nat} {l:List (List Value)} (hl:∀ x∈l,x.length=z) {k c:Nat} (hk:k < l.length) (hc:c < z):l.flatten[k * z+c]? =(l.getD k [])[c]?:=by
 induction l generalizing k with
 |nil=>simp at hk
 |cons x l ih=>
  have hx:=hl x (by simp)
  cases k with
  |zero=>
   simp only [List.flatten_cons,Nat.zero_mul,Nat.zero_add,List.getD_cons_zero]
   rw [List.getElem?_append_left (by omega)]
  |succ k=>
   simp only [List.flatten_cons,List.getD_cons_succ]
   rw [List.getElem?_append_right (by rw [hx,Nat.succ_mul];omega),hx,show (k+1) * z+c - z=k * z+c by rw [Nat.succ_mul];omega]
   exact ih (fun y hy=>hl y (by simp [hy])) (by simp at hk;omega)
theorem flat_set {z:Nat} {l:List (List Value)} (hl:∀ x∈l,x.length=z) {k c:Nat} (hk:k < l.length) (hc:c < z) (u:Value):l.flatten.set (k * z+c) u=(l.set k ((l.getD k []).set c u)).flatten:=by
 induction l generalizing k with
 |nil=>simp at hk
 |cons x l ih=>
  have hx:=hl x (by simp)
  cases k with
  |zero=>
   simp only [List.flatten_cons,Nat.zero_mul,Nat.zero_add,List.getD_cons_zero,List.set_cons_zero]
   rw [List.set_append_left _ _ (by omega)]
  |succ k=>
   simp only [List.flatten_cons,List.getD_cons_succ,List.set_cons_succ]
   rw [List.set_append_right _ _ (by rw [hx,Nat.succ_mul];omega),hx,show (k+1) * z+c - z=k * z+c by rw [Nat.succ_mul];omega]
   rw [ih (fun y hy=>hl y (by simp [hy])) (by simp at hk;omega)]
def Gr (l:List (Int×List Xf)) (vs:List Value):List Value:=(List.zipWith (fun (p:Int×List Xf) v=>[Value.int .i64 p.1,v]) l vs).flatten
def Bc (l:List (Int×List Nat)) (vs:List Value):List Value:=(List.zipWith (fun (p:Int×List Nat) v=>[Value.int .i64 p.1,v]) l vs).flatten
def Kg (w:World) (lab:Nat→Nat) (i:Nat) (v:Value) (l:List (Int×List Xf)):Prop:=
 ∃ vs:List Value,vs.length=l.length∧Vt w lab i 110 2 (Gr l vs) l.length v∧∀ k,k < l.length→Vt w lab i 106 3 (Yj (l.getD k (0,[])).2) (l.getD k (0,[])).2.length (vs.getD k undef)
def Ki (w:World) (lab:Nat→Nat) (i:Nat) (v:Value) (l:List (Int×List Nat)):Prop:=
 ∃ vs:List Value,vs.length=l.length∧Vt w lab i 63 2 (Bc l vs) l.length v∧∀ k,k < l.length→Vt w lab i 51 1 ((l.getD k (0,[])).2.map (Value.float .f64)) (l.getD k (0,[])).2.length (vs.getD k undef)
theorem Kg.carry {l:List (Int×List Xf)} (h:Kg w lab i v l) (m:Ze S w w') (hs:J4 S w lab J) (hi:i∉J) (ha:Uk w lab lab'):Kg w' lab' i v l:=by
 obtain ⟨vs,h1,h2,h3⟩:=h
 exact ⟨vs,h1,h2.carry m hs hi ha,fun k hk=>(h3 k hk).carry m hs hi ha⟩
theorem Ki.carry {l:List (Int×List Nat)} (h:Ki w lab i v l) (m:Ze S w w') (hs:J4 S w lab J) (hi:i∉J) (ha:Uk w lab lab'):Ki w' lab' i v l:=by
 obtain ⟨vs,h1,h2,h3⟩:=h
 exact ⟨vs,h1,h2.carry m hs hi ha,fun k hk=>(h3 k hk).carry m hs hi ha⟩
theorem Ka {α:Type} {f:α→Value} {l:List α} {vs:List Value}:∀ x∈List.zipWith (fun p v=>[f p,v]) l vs,x.length=2:=by
 intro x hx
 obtain ⟨k,hk,rfl⟩:=List.mem_iff_getElem.1 hx
 simp
theorem progV_at {l:List (Int×List Xf)} {vs:List Value} (hv:vs.length=l.length) {k:Nat} (hk:k < l.length):(Gr l vs)[k * 2]? =some (.int .i64 (l.getD k (0,[])).1)∧(Gr l vs)[k * 2+1]? =some (vs.getD k undef):=by
 have hk':k < vs.length:=by omega
 have e:(List.zipWith (fun (p:Int×List Xf) v=>[Value.int .i64 p.1,v]) l vs).getD k []=[.int .i64 (l.getD k (0,[])).1,vs.getD k undef]:=by
  rw [List.getD_eq_getElem?_getD,List.getElem?_eq_getElem (by simp;omega)]
  simp [hk,hk']
 constructor
 ·have:=Ke (z:=2) (c:=0) (Ka (f:=fun p:Int×List Xf=>Value.int .i64 p.1) (l:=l) (vs:=vs)) (k:=k) (by simp;omega) (by omega)
  rw [e] at this
  exact this
 ·have:=Ke (z:=2) (c:=1) (Ka (f:=fun p:Int×List Xf=>Value.int .i64 p.1) (l:=l) (vs:=vs)) (k:=k) (by simp;omega) (by omega)
  rw [e] at this
  exact this
theorem callV_at {l:List (Int×List Nat)} {vs:List Value} (hv:vs.length=l.length) {k:Nat} (hk:k < l.length):(Bc l vs)[k * 2]? =some (.int .i64 (l.getD k (0,[])).1)∧(Bc l vs)[k * 2+1]? =some (vs.getD k undef):=by
 have hk':k < vs.length:=by omega
 have e:(List.zipWith (fun (p:Int×List Nat) v=>[Value.int .i64 p.1,v]) l vs).getD k []=[.int .i64 (l.getD k (0,[])).1,vs.getD k undef]:=by
  rw [List.getD_eq_getElem?_getD,List.getElem?_eq_getElem (by simp;omega)]
  simp [hk,hk']
 constructor
 ·have:=Ke (z:=2) (c:=0) (Ka (f:=fun p:Int×List Nat=>Value.int .i64 p.1) (l:=l) (vs:=vs)) (k:=k) (by simp;omega) (by omega)
  rw [e] at this
  exact this
 ·have:=Ke (z:=2) (c:=1) (Ka (f:=fun p:Int×List Nat=>Value.int .i64 p.1) (l:=l) (vs:=vs)) (k:=k) (by simp;omega) (by omega)
  rw [e] at this
  exact this
structure DX where
 (va vr vw vo:Value)
 (st ah fr til:Int)
def X1:DX:=⟨.slice none 0 0,.slice none 0 0,.slice none 0 0,.slice none 0 0,0,0,0,0⟩
def Xt:Z2:=⟨0,0,0,0,[],0,0,[],[],[],0,0,0,0,0⟩
def Z3 (d:Z2) (e:DX):List Value:=[.int .i64 d.th,.int .i64 d.no,.int .i64 d.prog,.int .i64 d.tag,e.va,.int .i64 d.mark,.int .i64 d.number,e.vr,e.vw,e.vo,.int .i64 d.how,.int .i64 d.ecode,.int .i64 d.eerr,.int .i64 d.bgn,.int .i64 d.ended,.int .i64 e.st,.int .i64 e.ah,.int .i64 e.fr,.int .i64 e.til]
structure Lk (w:World) (lab:Nat→Nat) (i:Nat) (d:Z2) (e:DX):Prop where
 ra:Vt w lab i 51 1 (d.args.map (Value.float .f64)) d.args.length e.va
 rr:Vt w lab i 53 2 (Yh d.reads) d.reads.length e.vr
 rw:Vt w lab i 53 2 (Yh d.writes) d.writes.length e.vw
 ro:Vt w lab i 51 1 (d.out.map (Value.float .f64)) d.out.length e.vo
theorem Lk.carry {d:Z2} {e:DX} (h:Lk w lab i d e) (m:Ze S w w') (hs:J4 S w lab J) (hi:i∉J) (ha:Uk w lab lab'):Lk w' lab' i d e:=
 ⟨h.ra.carry m hs hi ha,h.rr.carry m hs hi ha,h.rw.carry m hs hi ha,h.ro.carry m hs hi ha⟩
def Qn (l:List Z2) (es:List DX):List Value:=(List.zipWith Z3 l es).flatten
structure Jm (w:World) (lab:Nat→Nat) (i j:Nat) (v:Value) (l:List Z2) (es:List DX):Prop where
 len:es.length=l.length
 row:Vt w lab i 50 19 (Qn l es) l.length v
 rows:∀ k,k < l.length→Lk w lab j (l.getD k Xt) (es.getD k X1)
theorem Jm.carry {l:List Z2} {es:List DX} (h:Jm w lab i j v l es) (m:Ze S w w') (hs:J4 S w lab J) (hi:i∉J) (hj:j∉J) (ha:Uk w lab lab'):Jm w' lab' i j v l es:=
 ⟨h.len,h.row.carry m hs hi ha,fun k hk=>(h.rows k hk).carry m hs hj ha⟩
theorem Kx {l:List Z2} {es:List DX}:∀ x∈List.zipWith Z3 l es,x.length=19:=by
 intro x hx
 obtain ⟨k,hk,rfl⟩:=List.mem_iff_getElem.1 hx
 simp [Z3]
theorem Pe {l:List Z2} {es:List DX} (he:es.length=l.length) {k:Nat} (hk:k < l.length):(List.zipWith Z3 l es).getD k []=Z3 (l.getD k Xt) (es.getD k X1):=by
 have hk':k < es.length:=by omega
 rw [List.getD_eq_getElem?_getD,List.getElem?_eq_getElem (by simp;omega)]
 simp [hk,hk']
theorem G8 {l:List Z2} {es:List DX} (he:es.length=l.length) {k c:Nat} (hk:k < l.length) (hc:c < 19):(Qn l es)[k * 19+c]? =(Z3 (l.getD k Xt) (es.getD k X1))[c]?:=by
 unfold Qn
 rw [Ke Kx (by simp;omega) hc,Pe he hk]
end
section
variable {w0 w w1 w':World} {lab lab':Nat→Nat} {S J:List Nat} {i j n t k:Nat} {v:Value} {s s':Zr}
structure EP where
 (x a b r:Nat)
 (vp vt vd:Value)
 kt:Nat→Nat
 (vc gv:Nat→Value)
 ai:Nat→Int
 es:List DX
def Xr (k:Nat):Value:=.pointer (some ⟨k,0,none⟩)
def J0 (P:EP) (s:Zr):Array Value:=#[.int .i64 s.c0,.int .i64 s.c1,.int .i64 s.c2,.int .i64 s.c3,P.vp,.int .i64 0,.int .i64 1,.int .i64 2,.int .i64 3,.int .i64 (Yb s.c1),.int .i64 (Zw s.c0 s.c1),Xr P.a,Xr P.r,P.vt,P.vd,.int .i64 s.steps]
def Qe (vc:Value) (begun:Nat) (gv:Value) (ai:Int):Array Value:=#[vc,.int .i64 begun,gv,.int .i64 ai]
def Px (w:World) (lab:Nat→Nat) (i:Nat) (gv:Value):Option Qt→Prop
 |none=>gv=.nilIface
 |some (.wr x)=>∃ q,gv=.iface 140 (Xr q.k)∧Zv w q x∧(x.part≤8→q.nx=Xe x.part)∧∀ n∈q.blocks,lab n=i
 |some (.rd x)=>∃ q,gv=.iface 142 (Xr q.k)∧Z9 w q x∧∀ n∈q.blocks,lab n=i
def Zr.goer (s:Zr) (t:Nat):Option Qt:=
 match (s.th t).cur with
 |none=>none
 |some i=>match s.txs[i]? with|some x=>x.g|none=>none
theorem Px.carry {g:Option Qt} (h:Px w lab i v g) (m:Ze S w w') (hs:J4 S w lab J) (hi:i∉J) (ha:Uk w lab lab'):Px w' lab' i v g:=by
 match g,h with
 |none,h=>exact h
 |some (.wr x),⟨q,h1,h2,h3,h4⟩=>exact ⟨q,h1,h2.mod m (fun n hn=>hs.nin hi (h4 n hn) (h2.lt hn)),h3,fun n hn=>(ha n (h2.lt hn)).trans (h4 n hn)⟩
 |some (.rd x),⟨q,h1,h2,h4⟩=>exact ⟨q,h1,h2.mod m (fun n hn=>hs.nin hi (h4 n hn) (h2.lt hn)),fun n hn=>(ha n (h2.lt hn)).trans (h4 n hn)⟩
structure Yv (w0 w:World) (lab:Nat→Nat) (P:EP) (s:Zr):Prop where
 hx:w.heap[P.x]? =some (.cells (J0 P s) 79 (0,0))
 mem:Zh 137 w P.a P.b s.mem
 rnd:Xw w P.r s.c1
 prog:Kg w lab 6 P.vp s.progs
 trow:Vt w lab 4 83 1 ((List.range s.ths.length).map (fun t=>Xr (P.kt t))) s.ths.length P.vt
 thd:∀ t,t < s.ths.length→w.heap[P.kt t]? =some (.cells (Qe (P.vc t) (s.th t).begun (P.gv t) (P.ai t)) 87 (0,0))
 lt:∀ t,t < s.ths.length→lab (P.kt t)=10+t
 call:∀ t,t < s.ths.length→Ki w lab 6 (P.vc t) (s.th t).calls
 cur:∀ t i,t < s.ths.length→(s.th t).cur=some i→P.ai t=i
 go:∀ t,t < s.ths.length→Px w lab (30+t) (P.gv t) (s.goer t)
 deeds:Jm w lab 5 6 P.vd (s.txs.map (·.raw)) P.es
 n1:1≤s.ths.length
 n8:s.ths.length≤8
 nt:s.c1=s.ths.length
 lx:lab P.x=1
 la:lab P.a=2
 lb:lab P.b=2
 lr:lab P.r=3
 old:∀ n,n < w0.heap.size→lab n=0
 fr:Ze [] w0 w
structure Kept (w0 w':World) (lab':Nat→Nat) (P:EP) (s:Zr) (J:List Nat):Prop where
 hx:1∉J→w'.heap[P.x]? =some (.cells (J0 P s) 79 (0,0))
 mem:2∉J→Zh 137 w' P.a P.b s.mem
 rnd:3∉J→Xw w' P.r s.c1
 prog:Kg w' lab' 6 P.vp s.progs
 trow:Vt w' lab' 4 83 1 ((List.range s.ths.length).map (fun t=>Xr (P.kt t))) s.ths.length P.vt
 thd:∀ t,t < s.ths.length→10+t∉J→w'.heap[P.kt t]? =some (.cells (Qe (P.vc t) (s.th t).begun (P.gv t) (P.ai t)) 87 (0,0))
 lt:∀ t,t < s.ths.length→lab' (P.kt t)=10+t
 call:∀ t,t < s.ths.length→Ki w' lab' 6 (P.vc t) (s.th t).calls
 go:∀ t,t < s.ths.length→30+t∉J→Px w' lab' (30+t) (P.gv t) (s.goer t)
 deeds:5∉J→Jm w' lab' 5 6 P.vd (s.txs.map (·.raw)) P.es
 lx:lab' P.x=1
 la:lab' P.a=2
 lb:lab' P.b=2
 lr:lab' P.r=3
 old:∀ n,n < w0.heap.size→lab' n=0
 fr:Ze [] w0 w'
variable {P:EP}
theorem Yv.ge (h:Yv w0 w lab P s) (hn:lab n≠0):w0.heap.size≤n:=by
 by_cases hl:n < w0.heap.size
 ·exact absurd (h.old n hl) hn
 ·omega
theorem Yv.keep (h:Yv w0 w lab P s) (m:Ze S w w') (hs:J4 S w lab J) (h0:0∉J) (h4:4∉J) (h6:6∉J) (ha:Uk w lab lab'):Kept w0 w' lab' P s J where
 hx:=fun hj=>m.at h.hx (hs.nin hj h.lx (lt_of_block h.hx))
 mem:=fun hj=>h.mem.mod m (hs.nin hj h.la h.mem.lta) (hs.nin hj h.lb h.mem.ltb)
 rnd:=fun hj=>h.rnd.mod m (hs.nin hj h.lr h.rnd.lt)
 prog:=h.prog.carry m hs h6 ha
 trow:=h.trow.carry m hs h4 ha
 thd:=fun t ht hj=>m.at (h.thd t ht) (hs.nin hj (h.lt t ht) (lt_of_block (h.thd t ht)))
 lt:=fun t ht=>(ha _ (lt_of_block (h.thd t ht))).trans (h.lt t ht)
 call:=fun t ht=>(h.call t ht).carry m hs h6 ha
 go:=fun t ht hj=>(h.go t ht).carry m hs hj ha
 deeds:=fun hj=>h.deeds.carry m hs hj h6 ha
 lx:=(ha _ (lt_of_block h.hx)).trans h.lx
 la:=(ha _ h.mem.lta).trans h.la
 lb:=(ha _ h.mem.ltb).trans h.lb
 lr:=(ha _ h.rnd.lt).trans h.lr
 old:=fun n hn=>(ha n (Nat.lt_of_lt_of_le hn h.fr.size)).trans (h.old n hn)
 fr:=h.fr.then m (fun n hn=>.inr (by
  by_cases hl:n < w.heap.size
  ·refine h.ge (fun e=>h0 ?_)
   rw [←e];exact hs n hn hl
  ·exact Nat.le_trans h.fr.size (by omega)))
theorem Yv.quiet (h:Yv w0 w lab P s) (m:Ze [] w w') (ha:Uk w lab lab'):Yv w0 w' lab' P s:=by
 have k:=h.keep (J:=[]) m (by intro n hn;simp at hn) (by simp) (by simp) (by simp) ha
 exact ⟨k.hx (by simp),k.mem (by simp),k.rnd (by simp),k.prog,k.trow,fun t ht=>k.thd t ht (by simp),k.lt,k.call,h.cur,fun t ht=>k.go t ht (by simp),k.deeds (by simp),h.n1,h.n8,h.nt,k.lx,k.la,k.lb,k.lr,k.old,k.fr⟩
theorem Yv.row (h:Yv w0 w lab P s):∃ g cap,P.vt=.slice (some ⟨g,0,none⟩) s.ths.length cap∧lab g=4∧g < w.heap.size∧∀ t,t < s.ths.length→w.cell? ⟨g,t,none⟩=some (Xr (P.kt t)):=by
 obtain ⟨g,cap,e,_⟩:=Yd h.trow.row h.n1
 have hr:=h.trow.row
 rw [e] at hr
 exact ⟨g,cap,e,h.trow.own g (by rw [e];rfl),Yr hr rfl,fun t ht=>(hr.cellAt t (by omega)).trans (by simp [ht])⟩
end
section
variable {w0 w w':World} {lab lab':Nat→Nat} {P:EP} {s s':Zr} {k n cap begun t:Nat} {a:Option Addr} {ai:Int}
theorem nat_beq (a b:Nat):((a:Int)==(b:Int))=(a==b):=by
 rw [Bool.eq_iff_iff]
 simp
 try omega
theorem fin_on {ti:TypeId} {u:Value} (h:w.heap[k]? =some (.cells (Qe (.slice a n cap) begun (.iface ti u) ai) 87 (0,0))):Calls Tryz.prog 43 #[Xr k] w fun e w'=>e=.returned (.bool false)∧Ze [] w w':=by
 have c2:w.cell? ⟨k,2,none⟩=some (.iface ti u):=Za h rfl
 unfold Xr
 go_enter func43,ntmps43
 go_wp2
 go_quiet (fail)
 go_wp2
 go_ret
 exact ⟨rfl,(Zr_ _ _).drewN _⟩
theorem Dy (h:w.heap[k]? =some (.cells (Qe (.slice a n cap) begun .nilIface ai) 87 (0,0))):Calls Tryz.prog 43 #[Xr k] w fun e w'=>e=.returned (.bool (begun==n))∧Ze [] w w':=by
 have c0:w.cell? ⟨k,0,none⟩=some (.slice a n cap):=Za h rfl
 have c1:w.cell? ⟨k,1,none⟩=some (.int .i64 begun):=Za h rfl
 have c2:w.cell? ⟨k,2,none⟩=some .nilIface:=Za h rfl
 unfold Xr
 go_enter func43,ntmps43
 go_wp2
 go_quiet (fail)
 go_wp2
 go_ret
 exact ⟨by rw [nat_beq];rfl,(Zr_ _ _).drewN _⟩
def Zr.Goes (s:Zr):Prop:=∀ t i,t < s.ths.length→(s.th t).cur=some i→∃ x g,s.txs[i]? =some x∧x.g=some g
theorem Zr.Goes.goer (h:s.Goes) (ht:t < s.ths.length):((s.th t).cur=none∧s.goer t=none)∨∃ i x g,(s.th t).cur=some i∧s.txs[i]? =some x∧x.g=some g∧s.goer t=some g:=by
 cases hc:(s.th t).cur with
 |none=>exact .inl ⟨rfl,by unfold Zr.goer;rw [hc]⟩
 |some i=>
  obtain ⟨x,g,h1,h2⟩:=h t i ht hc
  exact .inr ⟨i,x,g,rfl,h1,h2,by unfold Zr.goer;rw [hc];simp [h1,h2]⟩
theorem Px.some_iface {i:Nat} {v:Value} {g:Qt} (h:Px w lab i v (some g)):∃ ti u,v=.iface ti u:=by
 cases g with
 |wr x=>obtain ⟨q,h,_⟩:=h;exact ⟨_,_,h⟩
 |rd x=>obtain ⟨q,h,_⟩:=h;exact ⟨_,_,h⟩
theorem fin_c (h:Yv w0 w lab P s) (hg:s.Goes) (ht:t < s.ths.length):Calls Tryz.prog 43 #[Xr (P.kt t)] w fun e w'=>e=.returned (.bool (s.th t).fin)∧Ze [] w w':=by
 have hk:=h.thd t ht
 obtain ⟨vs,_,hr,_⟩:=h.call t ht
 obtain ⟨a,cap,hv⟩:=Zo hr.row
 rw [hv] at hk
 have G:=h.go t ht
 obtain ⟨hc,hgo⟩|⟨i,x,g,hc,_,_,hgo⟩:=hg.goer ht
 ·rw [hgo] at G
  have G:P.gv t=.nilIface:=G
  rw [G] at hk
  refine (Dy hk).mono ?_
  rintro e w1 ⟨rfl,m⟩
  exact ⟨by unfold Gc.fin;rw [hc];rfl,m⟩
 ·rw [hgo] at G
  obtain ⟨ti,u,e⟩:=G.some_iface
  rw [e] at hk
  refine (fin_on hk).mono ?_
  rintro e w1 ⟨rfl,m⟩
  exact ⟨by unfold Gc.fin;rw [hc];rfl,m⟩
end
section
variable {w0 w w':World} {lab lab':Nat→Nat} {P:EP} {s s':Zr} {k n cap begun t:Nat} {a:Option Addr} {ai:Int}
theorem over_all (h:∀ j,j < s.ths.length→(s.th j).fin=true):s.over=true:=by
 unfold Zr.over
 rw [List.all_eq_true]
 intro x hx
 obtain ⟨j,hj,rfl⟩:=List.mem_iff_getElem.1 hx
 have:=h j hj
 unfold Zr.th at this
 simpa [List.getD_eq_getElem?_getD,hj] using this
theorem over_no {j:Nat} (hj:j < s.ths.length) (h:(s.th j).fin=false):s.over=false:=by
 unfold Zr.over
 rw [List.all_eq_false]
 refine ⟨s.ths[j],List.getElem_mem hj,?_⟩
 unfold Zr.th at h
 simp [List.getD_eq_getElem?_getD,hj] at h
 simp [h]
theorem over_c (h:Yv w0 w lab P s) (hg:s.Goes):Calls Tryz.prog 20 #[Xr P.x] w fun e w'=>e=.returned (.bool s.over)∧Ze [] w w':=by
 obtain ⟨g,cap,e,_,hgl,hc⟩:=h.row
 have c13:w.cell? ⟨P.x,13,none⟩=some (.slice (some ⟨g,0,none⟩) s.ths.length cap):=by rw [←e];exact Za h.hx rfl
 obtain ⟨nt,hnt⟩:∃ z,z=s.ths.length:=⟨_,rfl⟩
 have HN:=Zh_ hnt
 have hn8:nt≤8:=by have:=h.n8;omega
 rw [←hnt] at c13 hc
 have H:=Zh_ h
 have HG:=Zh_ hg
 have HY:=Zh_ (over_all (s:=s))
 have HO:=Zh_ (fun j=>over_no (s:=s) (j:=j))
 clear h hg e hnt
 unfold Xr
 go_enter func20,ntmps20
 go_wp2_with fail
 go_loopw [10] (fun i wr=>∃ k:Nat,k≤nt∧i=.int .i64 k∧(∀ j,j < k→(s.th j).fin=true)∧Ze [] w wr) (fun i _=>nt - (intOf i).toNat)
 case atStart=>exact ⟨0,by omega,rfl,fun j hj=>absurd hj (by omega),Zr_ _ _⟩
 case round=>
  obtain ⟨k,hk,rfl,hall,m⟩:=hrel
  by_cases hlt:k < nt
  ·have c:=Zx m hgl (by simp) (hc k hlt)
   have d4:decide ((k:Int) < nt)=true:=decide_eq_true (by omega)
   have HM:=Zh_ m
   have HA:=Zh_ hall
   have C:=fin_c (H.out.quiet m Zz) HG.out (by rw [←HN.out];exact hlt)
   unfold Xr at c C
   clear m hall hc
   go_wp2_with fail
   refine C.mono ?_;rintro e w2 ⟨rfl,m2⟩
   have M2:=HM.out.trans m2
   cases hf:(s.th k).fin
   ·go_wp2
    go_ret
    exact ⟨by rw [HO.out k (by rw [←HN.out];exact hlt) hf];rfl,M2⟩
   ·go_wp2
    go_roundw
    case rel=>exact ⟨k+1,by omega,by go_num,fun j hj=>by
     by_cases hjk:j=k
     ·subst hjk;exact hf
     ·exact HA.out j (by omega),M2⟩
    case measure=>simp [intOf];omega
  ·have d4:decide ((k:Int) < nt)=false:=decide_eq_false (by omega)
   obtain rfl:k=nt:=by omega
   go_wp2
   go_ret
   exact ⟨by rw [HY.out (by rw [←HN.out];exact hall)];rfl,m⟩
end
end Go.Proofs.YtkhonmhnchdpkaaGreat
