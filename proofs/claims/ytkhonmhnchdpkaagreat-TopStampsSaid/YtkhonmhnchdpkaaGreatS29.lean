/- A part of the proof; no condition. -/
import Derived.Test.YtkhonmhnchdpkaaGreatS28
set_option maxRecDepth 100000
set_option maxHeartbeats 40000000
namespace Go.Proofs.YtkhonmhnchdpkaaGreat
open Go.RowKit _root_.Go.Proofs.Tryz
section
variable {w0 w w':World} {lab lab':Nat→Nat} {P:EP} {s s':Zr}
def Dh (n0:Nat) (x:Z5) (v:Value) (w:World):Prop:=∃ q,v=.pointer (some ⟨q.k,0,none⟩)∧Zv w q x∧q.nx=Xe 1∧∀ k∈q.blocks,n0≤k
theorem Dh.mod {n0:Nat} {x:Z5} {v:Value} {w w':World} (h:Dh n0 x v w) (m:Ze [] w w'):Dh n0 x v w':=by
 obtain ⟨q,h1,h2,h3,h4⟩:=h
 exact ⟨q,h1,h2.mod m (by simp),h3,h4⟩
def Dl (n0:Nat) (x:Yk) (v:Value) (w:World):Prop:=∃ q,v=.pointer (some ⟨q.k,0,none⟩)∧Z9 w q x∧∀ k∈q.blocks,n0≤k
theorem Dl.mod {n0:Nat} {x:Yk} {v:Value} {w w':World} (h:Dl n0 x v w) (m:Ze [] w w'):Dl n0 x v w':=by
 obtain ⟨q,h1,h2,h4⟩:=h
 exact ⟨q,h1,h2.mod m (by simp),h4⟩
def J5 (n0:Nat) (g:Qt) (v:Value) (w:World):Prop:=
 match g with
 |.wr x=>∃ q,v=.iface 140 (.pointer (some ⟨q.k,0,none⟩))∧Zv w q x∧q.nx=Xe 1∧∀ k∈q.blocks,n0≤k
 |.rd x=>∃ q,v=.iface 142 (.pointer (some ⟨q.k,0,none⟩))∧Z9 w q x∧∀ k∈q.blocks,n0≤k
theorem J5.mod {n0:Nat} {g:Qt} {v:Value} {w w':World} {S:List Nat} (h:J5 n0 g v w) (m:Ze S w w') (hS:∀ k∈S,k < n0):J5 n0 g v w':=by
 cases g with
 |wr x=>
  obtain ⟨q,h1,h2,h3,h4⟩:=h
  exact ⟨q,h1,h2.mod m (fun k hk hs=>by have:=h4 k hk;have:=hS k hs;omega),h3,h4⟩
 |rd x=>
  obtain ⟨q,h1,h2,h4⟩:=h
  exact ⟨q,h1,h2.mod m (fun k hk hs=>by have:=h4 k hk;have:=hS k hs;omega),h4⟩
def Rq (k n5 x n0:Nat) (t tag c0 c1 c2 c3:Int) (aa ca:Option Addr) (an ac cn ccap:Nat) (code:List Xf) (args:List Nat):Nat→Value→World→Prop
 |0,v,_=>v=.pointer (some ⟨k,0,none⟩)
 |1,v,_=>v=.pointer (some ⟨x,0,none⟩)
 |2,v,_=>v=.pointer (some ⟨x,0,none⟩)
 |3,v,_=>v=.pointer (some ⟨x,0,none⟩)
 |4,v,_=>v=.agg #[.int .i64 c0,.int .i64 c1,.int .i64 c2,.int .i64 c3]
 |5,v,_=>v=.int .i64 t
 |6,v,_=>v=.agg #[.int .i64 tag,.slice ca cn ccap]
 |7,v,_=>v=.pointer (some ⟨n5,1,none⟩)
 |8,v,_=>v=.slice aa an ac
 |9,v,w=>Dh n0 (Um c0 c1 c2 c3 tag code args) v w
 |10,v,w=>J5 n0 (.wr (Um c0 c1 c2 c3 tag code args)) v w
 |11,v,_=>v=.pointer (some ⟨k,0,none⟩)
 |12,v,_=>v=.pointer (some ⟨k,2,none⟩)
 |_,_,_=>True
theorem beg5F_on (k n5 x n0:Nat) (t tag c0 c1 c2 c3:Int) (aa ca:Option Addr) (an ac cn ccap:Nat) (code:List Xf) (args:List Nat) (i:Nat) (v:Value) (w w':World) (h:Rq k n5 x n0 t tag c0 c1 c2 c3 aa ca an ac cn ccap code args i v w) (m:Ze [] w w'):Rq k n5 x n0 t tag c0 c1 c2 c3 aa ca an ac cn ccap code args i v w':=by
 match i,h with
 |0,h=>exact h
 |1,h=>exact h
 |2,h=>exact h
 |3,h=>exact h
 |4,h=>exact h
 |5,h=>exact h
 |6,h=>exact h
 |7,h=>exact h
 |8,h=>exact h
 |9,h=>exact Dh.mod h m
 |10,h=>exact J5.mod (n0:=n0) (g:=(.wr (Um c0 c1 c2 c3 tag code args))) (v:=v) (w:=w) (S:=[]) h m (by simp)
 |11,h=>exact h
 |12,h=>exact h
 |i+13,h=>trivial
theorem Wb (k n5 x n0:Nat) (t tag c0 c1 c2 c3:Int) (aa ca:Option Addr) (an ac cn ccap:Nat) (code:List Xf) (args:List Nat) (i:Nat) (h:13≤i) (v:Value) (w:World):Rq k n5 x n0 t tag c0 c1 c2 c3 aa ca an ac cn ccap code args i v w:=by
 match i,h with
 |j+13,_=>trivial
def Rp (k n5 x n0:Nat) (t tag c0 c1 c2 c3:Int) (aa ca:Option Addr) (an ac cn ccap:Nat) (code:List Xf) (args:List Nat):Nat→Value→World→Prop
 |0,v,_=>v=.pointer (some ⟨k,0,none⟩)
 |1,v,_=>v=.pointer (some ⟨x,0,none⟩)
 |2,v,_=>v=.pointer (some ⟨x,0,none⟩)
 |3,v,_=>v=.pointer (some ⟨x,0,none⟩)
 |4,v,_=>v=.agg #[.int .i64 c0,.int .i64 c1,.int .i64 c2,.int .i64 c3]
 |5,v,_=>v=.int .i64 t
 |6,v,_=>v=.agg #[.int .i64 tag,.slice ca cn ccap]
 |7,v,_=>v=.pointer (some ⟨n5,1,none⟩)
 |8,v,_=>v=.slice aa an ac
 |9,v,w=>Dl n0 (Un c0 c1 c2 c3 t tag code args) v w
 |10,v,w=>J5 n0 (.rd (Un c0 c1 c2 c3 t tag code args)) v w
 |11,v,_=>v=.pointer (some ⟨k,0,none⟩)
 |12,v,_=>v=.pointer (some ⟨k,2,none⟩)
 |_,_,_=>True
theorem beg6F_on (k n5 x n0:Nat) (t tag c0 c1 c2 c3:Int) (aa ca:Option Addr) (an ac cn ccap:Nat) (code:List Xf) (args:List Nat) (i:Nat) (v:Value) (w w':World) (h:Rp k n5 x n0 t tag c0 c1 c2 c3 aa ca an ac cn ccap code args i v w) (m:Ze [] w w'):Rp k n5 x n0 t tag c0 c1 c2 c3 aa ca an ac cn ccap code args i v w':=by
 match i,h with
 |0,h=>exact h
 |1,h=>exact h
 |2,h=>exact h
 |3,h=>exact h
 |4,h=>exact h
 |5,h=>exact h
 |6,h=>exact h
 |7,h=>exact h
 |8,h=>exact h
 |9,h=>exact Dl.mod h m
 |10,h=>exact J5.mod (n0:=n0) (g:=(.rd (Un c0 c1 c2 c3 t tag code args))) (v:=v) (w:=w) (S:=[]) h m (by simp)
 |11,h=>exact h
 |12,h=>exact h
 |i+13,h=>trivial
theorem Wa (k n5 x n0:Nat) (t tag c0 c1 c2 c3:Int) (aa ca:Option Addr) (an ac cn ccap:Nat) (code:List Xf) (args:List Nat) (i:Nat) (h:13≤i) (v:Value) (w:World):Rp k n5 x n0 t tag c0 c1 c2 c3 aa ca an ac cn ccap code args i v w:=by
 match i,h with
 |j+13,_=>trivial
theorem info50':(Tryz.prog.info? 50).map (fun i=>(i.zero.map (fun z=>z.cells.size),i.size,i.bytes))=some (some 19,19,216):=by kernel_rfl
theorem info50:∃ i z,Tryz.prog.info? 50=some i∧i.zero=some z∧i.size=19∧i.bytes=216∧z.cells.size=19:=by
 have h:=info50'
 cases hi:Tryz.prog.info? 50 with
 |none=>rw [hi] at h;cases h
 |some i=>
  rw [hi] at h
  simp only [Option.map_some,Option.some.injEq,Prod.mk.injEq] at h
  obtain ⟨h1,h2,h3⟩:=h
  cases hz:i.zero with
  |none=>rw [hz] at h1;cases h1
  |some z=>
   rw [hz] at h1
   simp only [Option.map_some,Option.some.injEq] at h1
   exact ⟨i,z,rfl,hz,h2,h3,h1⟩
def BegunP (w:World) (x k cg cc ncalls begun:Nat) (c0 c1 c2 c3 q4 q5 st ro:Int) (pg nprogs pc a r tg ntn tc:Nat) (vd:Value) (dl:List Value) (nd:Nat) (t prog:Int) (g:Qt) (e:Ending) (w':World):Prop:=
 e=.returned (.tuple #[])∧∃ v vd',J5 w.heap.size g v w'∧
  w'.heap[k]? =some (.cells #[.slice (some ⟨cg,0,none⟩) ncalls cc,.int .i64 ((begun:Int)+1),v,.int .i64 nd] 87 (0,0))∧
  w'.heap[x]? =some (.cells #[.int .i64 c0,.int .i64 c1,.int .i64 c2,.int .i64 c3,.slice (some ⟨pg,0,none⟩) nprogs pc,.int .i64 0,.int .i64 1,.int .i64 2,.int .i64 3,.int .i64 q4,.int .i64 q5,.pointer (some ⟨a,0,none⟩),.pointer (some ⟨r,0,none⟩),.slice (some ⟨tg,0,none⟩) ntn tc,vd',.int .i64 st] 79 (0,0))∧
  w'.ownsRow 0 50 19 vd' (nd+1) (dl++Z3 (Xj t begun prog st) {X1 with fr:=ro})∧
  (∀ g,vd'.ownBlock=some g→vd.ownBlock=some g∨w.heap.size≤g)∧Ze (k :: x :: vd.ownBlock.toList) w w'
theorem Bj {w:World} {r:Nat} {o:Int} (c17:w.cell? ⟨r,17,none⟩=some (.int .i64 o)):Calls Tryz.prog 26 #[.pointer (some ⟨r,0,none⟩)] w (fun e w'=>e=.returned (.int .i64 o)∧w=w'):=by
 go_enter func26,ntmps26
 go_wp2
 go_ret
 exact ⟨rfl,rfl⟩
theorem Rn (t prog st ro:Int) (begun:Nat):(Z3 (Xj t begun prog st) {X1 with fr:=ro}).toArray.all (·.oneCell')=true:=by
 unfold Z3 X1
 simp only [List.all_toArray,List.all_cons]
 rfl
def Rr (k n5 x r begun n0:Nat) (t prog st ro:Int):Nat→Value→World→Prop
 |0,v,_=>v=.int .i64 t
 |1,v,_=>v=.pointer (some ⟨k,0,none⟩)
 |2,v,_=>v=.pointer (some ⟨k,0,none⟩)
 |3,v,_=>v=.pointer (some ⟨k,1,none⟩)
 |4,v,_=>v=.int .i64 begun
 |5,v,_=>v=.pointer (some ⟨n5,0,none⟩)
 |6,v,_=>v=.int .i64 prog
 |7,v,_=>v=.pointer (some ⟨x,0,none⟩)
 |8,v,_=>v=.pointer (some ⟨x,0,none⟩)
 |9,v,_=>v=.pointer (some ⟨x,15,none⟩)
 |10,v,_=>v=.int .i64 st
 |11,v,_=>v=.pointer (some ⟨x,0,none⟩)
 |12,v,_=>v=.pointer (some ⟨x,0,none⟩)
 |13,v,_=>v=.pointer (some ⟨x,12,none⟩)
 |14,v,_=>v=.pointer (some ⟨r,0,none⟩)
 |15,v,_=>v=.int .i64 ro
 |16,v,_=>v=.agg (Z3 (Xj t begun prog st) {X1 with fr:=ro}).toArray
 |17,v,w=>Qw n0 v w
 |_,_,_=>True
theorem beg3F_on (k n5 x r begun n0:Nat) (t prog st ro:Int) (i:Nat) (v:Value) (w w':World) (h:Rr k n5 x r begun n0 t prog st ro i v w) (m:Ze [] w w'):Rr k n5 x r begun n0 t prog st ro i v w':=by
 match i,h with
 |0,h=>exact h
 |1,h=>exact h
 |2,h=>exact h
 |3,h=>exact h
 |4,h=>exact h
 |5,h=>exact h
 |6,h=>exact h
 |7,h=>exact h
 |8,h=>exact h
 |9,h=>exact h
 |10,h=>exact h
 |11,h=>exact h
 |12,h=>exact h
 |13,h=>exact h
 |14,h=>exact h
 |15,h=>exact h
 |16,h=>exact h
 |17,h=>exact Qw.mod h m
 |i+18,h=>trivial
theorem Wc (k n5 x r begun n0:Nat) (t prog st ro:Int) (i:Nat) (h:18≤i) (v:Value) (w:World):Rr k n5 x r begun n0 t prog st ro i v w:=by
 match i,h with
 |j+18,_=>trivial
theorem begin_t {x k tg tc cg cc pg pc a r:Nat} {t prog tag c0 c1 c2 c3 q4 q5 st:Int} {ntn:Nat} {vd:Value} {aa ca:Option Addr} {an ac cn ccap:Nat} {begun ncalls nprogs:Nat} {ai:Int}
 (ht0:0≤t) (ht:t.toNat < ntn) (hb:begun < ncalls) (hp0:0≤prog) (hp:prog.toNat < nprogs)
 (X:w.heap[x]? =some (.cells #[.int .i64 c0,.int .i64 c1,.int .i64 c2,.int .i64 c3,.slice (some ⟨pg,0,none⟩) nprogs pc,.int .i64 0,.int .i64 1,.int .i64 2,.int .i64 3,.int .i64 q4,.int .i64 q5,.pointer (some ⟨a,0,none⟩),.pointer (some ⟨r,0,none⟩),.slice (some ⟨tg,0,none⟩) ntn tc,vd,.int .i64 st] 79 (0,0)))
 (T:w.cell? ⟨tg,t.toNat,none⟩=some (.pointer (some ⟨k,0,none⟩))) (_:tg < w.heap.size)
 (K:w.heap[k]? =some (.cells #[.slice (some ⟨cg,0,none⟩) ncalls cc,.int .i64 begun,.nilIface,.int .i64 ai] 87 (0,0)))
 (C0:w.cell? ⟨cg,begun * 2,none⟩=some (.int .i64 prog)) (C1:w.cell? ⟨cg,begun * 2+1,none⟩=some (.slice aa an ac)) (cgl:cg < w.heap.size)
 {f:Nat→Bool} {ro:Int} (R:w.heap[r]? =some (.cells (Bk f c1 ro) 123 (0,0)))
 (P0:w.cell? ⟨pg,prog.toNat * 2,none⟩=some (.int .i64 tag)) (P1:w.cell? ⟨pg,prog.toNat * 2+1,none⟩=some (.slice ca cn ccap)) (pgl:pg < w.heap.size)
 {ab bb:Nat} {ms:Zj} {code:List Xf} {args:List Nat} {dl:List Value} {nd:Nat}
 (hcf:Yt c0 c1 c2 c3) (ht1:t < c1) (MM:Zh 137 w ab bb ms)
 (hcode:w.ownsRow 0 106 3 (.slice ca cn ccap) code.length (Yj code)) (hcl:code.length≤5864062014635)
 (hargs:w.ownsRow 0 51 1 (.slice aa an ac) args.length (args.map (Value.float .f64))) (hal:args.length≤8)
 (hvd:w.ownsRow 0 50 19 vd nd dl) (hnd:nd < 1000000000) (hnc:ncalls≤64) (hdx:vd.ownBlock≠some x) (hdk:vd.ownBlock≠some k)
 {g:Qt} (hg:g=if tag=2 then .wr (Um c0 c1 c2 c3 tag code args) else .rd (Un c0 c1 c2 c3 t tag code args))
 :Calls Tryz.prog 45 #[.pointer (some ⟨x,0,none⟩),.int .i64 t] w (BegunP w x k cg cc ncalls begun c0 c1 c2 c3 q4 q5 st ro pg nprogs pc a r tg ntn tc vd dl nd t prog g):=by
 obtain ⟨av,cv,hav⟩:=Zo hvd
 subst hav
 have HCF:=Zh_ hcf
 have HT0:=Zh_ ht0
 have HTC:=Zh_ ht1
 have HMM:=Zh_ MM
 have HCO:=Zh_ hcode
 have HCL:=Zh_ hcl
 have HAR:=Zh_ hargs
 have HAL:=Zh_ hal
 have HVD:=Zh_ hvd
 have HND:=Zh_ hnd
 have HNC:=Zh_ hnc
 have HDX:=Zh_ hdx
 have HDK:=Zh_ hdk
 have HK0:=Zh_ K
 have HX0:=Zh_ X
 have HG0:=Zh_ hg
 clear hg hnc hcf ht1 MM hcode hcl hargs hal hvd hnd hdx hdk
 have hx:=lt_of_block X
 have hk:=lt_of_block K
 have x4:w.cell? ⟨x,4,none⟩=some (.slice (some ⟨pg,0,none⟩) nprogs pc):=Za X rfl
 have x13:w.cell? ⟨x,13,none⟩=some (.slice (some ⟨tg,0,none⟩) ntn tc):=Za X rfl
 have k0:w.cell? ⟨k,0,none⟩=some (.slice (some ⟨cg,0,none⟩) ncalls cc):=Za K rfl
 have k1:w.cell? ⟨k,1,none⟩=some (.int .i64 begun):=Za K rfl
 go_enter func45,ntmps45
 go_wp2_with fail
 go_region
 go_wp2_with fail
 go_region
 go_wp2_with fail
 obtain ⟨n5,hn5⟩:∃ z,z=w.heap.size:=⟨_,rfl⟩
 obtain ⟨n6,hn6⟩:∃ z,z=n5+1:=⟨_,rfl⟩
 obtain ⟨w2,hw2⟩:∃ z,z=((w.alloc (Obj.cells #[Value.int IntKind.i64 prog,Value.slice aa an ac] 63)).alloc (Obj.cells #[Value.int IntKind.i64 tag,Value.slice ca cn ccap] 110)).drew.drew:=⟨_,rfl⟩
 have M2:Ze [] w w2:=by rw [hw2];exact ((((Zr_ _ _).alloc _).alloc _).drew).drew
 have B5:w2.heap[n5]? =some (.cells #[Value.int IntKind.i64 prog,Value.slice aa an ac] 63 (0,0)):=by rw [hw2,hn5];exact Zf _ (Zc _ _)
 have B6:w2.heap[n6]? =some (.cells #[Value.int IntKind.i64 tag,Value.slice ca cn ccap] 110 (0,0)):=by
  rw [hw2,hn6,hn5]
  have:=Zc (w.alloc (Obj.cells #[Value.int IntKind.i64 prog,Value.slice aa an ac] 63)) (Obj.cells #[Value.int IntKind.i64 tag,Value.slice ca cn ccap] 110)
  rw [World.size_alloc] at this
  exact this
 have X2:=M2.at X (by simp)
 have K2:=M2.at K (by simp)
 have R2:=M2.at R (by simp)
 simp only [←hw2,←hn5,←hn6]
 have HM2:=Zh_ M2
 clear hn5 hn6 hw2 M2 X K T C0 C1 P0 P1 R x4 x13 k0 k1 hx hk
 have hx:=lt_of_block X2
 have hk:=lt_of_block K2
 have hr:=lt_of_block R2
 have h5:=lt_of_block B5
 have h6:=lt_of_block B6
 have k1:w2.cell? ⟨k,1,none⟩=some (.int .i64 begun):=Za K2 rfl
 have b50:w2.cell? ⟨n5,0,none⟩=some (.int .i64 prog):=Za B5 rfl
 have x15:w2.cell? ⟨x,15,none⟩=some (.int .i64 st):=Za X2 rfl
 have x12:w2.cell? ⟨x,12,none⟩=some (.pointer (some ⟨r,0,none⟩)):=Za X2 rfl
 have HK:=Zh_ (show ∀ wx,Ze [] w2.drew wx→wx.cell? ⟨k,1,none⟩=some (.int .i64 begun)∧wx.cell? ⟨n5,0,none⟩=some (.int .i64 prog)∧wx.cell? ⟨x,15,none⟩=some (.int .i64 st)∧wx.cell? ⟨x,12,none⟩=some (.pointer (some ⟨r,0,none⟩))∧wx.cell? ⟨r,17,none⟩=some (.int .i64 ro) from
  fun wx hR=>by
   have m:Ze [] w2 wx:=(Zr_ [] w2).drew.trans hR
   exact ⟨Zx m hk (by simp) k1,Zx m h5 (by simp) b50,Zx m hx (by simp) x15,Zx m hx (by simp) x12,Za (m.at R2 (by simp)) rfl⟩)
 obtain ⟨n0,hq0⟩:∃ n,n=w2.heap.size:=⟨_,rfl⟩
 have hn0:n0≤w2.drew.heap.size:=Nat.le_of_eq hq0
 have HN0:=Zh_ hq0
 have HR2:=Zh_ R2
 have HX2:=Zh_ X2
 have HK2:=Zh_ K2
 have HB5:=Zh_ B5
 have HB6:=Zh_ B6
 clear k1 b50 x15 x12 hq0 R2 X2 K2 B5 B6
 go_cut [7] (fun A wx=>∃ n7,A=.pointer (some ⟨n7,0,none⟩)∧wx.heap[n7]? =some (.cells (Z3 (Xj t begun prog st) {X1 with fr:=ro}).toArray 50 (0,0))∧w2.heap.size≤n7∧Ze [] w2 wx)
 case first=>
  refine Yu (by kernel_rfl) 18 (by rfl) (fun x y=>Ze [] x y) (Rr k n5 x r begun n0 t prog st ro) (by kernel_rfl) (by rfl) (by kernel_rfl) (beg3F_on k n5 x r begun n0 t prog st ro) (fun a=>Zr_ _ _) (fun a b c h k=>h.trans k) ?_ ?_ ?_
  ·exact fun i v w' hv o ho hd=>Q8 (m:=18) (by kernel_rfl) (Wc k n5 x r begun n0 t prog st ro) ho hd
  ·intro i o hi ho
   match i,hi with
   |0,_=>
    obtain rfl:=Zo_ ho
    intro a wx hR hF hO
    have f1:a.eval (.tmp 1)=.int .i64 t:=hO 1 (by kernel_rfl) (Zm (by kernel_rfl))
    have e1:=Tv_ f1
    clear hF hO
    go_simp
    exact ⟨Zr_ _ _,rfl⟩
   |1,_=>
    obtain rfl:=Zo_ ho
    intro a wx hR hF hO
    have f4:a.eval (.tmp 4)=.pointer (some ⟨k,0,none⟩):=hO 4 (by kernel_rfl) (Zm (by kernel_rfl))
    have e4:=Tv_ f4
    clear hF hO
    go_simp
    exact ⟨Zr_ _ _,rfl⟩
   |2,_=>
    obtain rfl:=Zo_ ho
    intro a wx hR hF hO
    have f34:a.eval (.tmp 34)=.pointer (some ⟨k,0,none⟩):=hF 34 1 _ (by kernel_rfl) rfl rfl
    have e34:=Tv_ f34
    clear hF hO
    go_simp
    exact ⟨Zr_ _ _,rfl⟩
   |3,_=>
    obtain rfl:=Zo_ ho
    intro a wx hR hF hO
    have f35:a.eval (.tmp 35)=.pointer (some ⟨k,0,none⟩):=hF 35 2 _ (by kernel_rfl) rfl rfl
    have e35:=Tv_ f35
    clear hF hO
    go_simp
    exact ⟨Zr_ _ _,rfl⟩
   |4,_=>
    obtain rfl:=Zo_ ho
    intro a wx hR hF hO
    have f36:a.eval (.tmp 36)=.pointer (some ⟨k,1,none⟩):=hF 36 3 _ (by kernel_rfl) rfl rfl
    have e36:=Tv_ f36
    clear hF hO
    obtain ⟨ck,cn,cx,cy,cr⟩:=HK.out wx hR
    go_simp
    exact ⟨Zr_ _ _,rfl⟩
   |5,_=>
    obtain rfl:=Zo_ ho
    intro a wx hR hF hO
    have f5:a.eval (.tmp 5)=.pointer (some ⟨n5,0,none⟩):=hO 5 (by kernel_rfl) (Zm (by kernel_rfl))
    have e5:=Tv_ f5
    clear hF hO
    go_simp
    exact ⟨Zr_ _ _,rfl⟩
   |6,_=>
    obtain rfl:=Zo_ ho
    intro a wx hR hF hO
    have f38:a.eval (.tmp 38)=.pointer (some ⟨n5,0,none⟩):=hF 38 5 _ (by kernel_rfl) rfl rfl
    have e38:=Tv_ f38
    clear hF hO
    obtain ⟨ck,cn,cx,cy,cr⟩:=HK.out wx hR
    go_simp
    exact ⟨Zr_ _ _,rfl⟩
   |7,_=>
    obtain rfl:=Zo_ ho
    intro a wx hR hF hO
    have f0:a.eval (.tmp 0)=.pointer (some ⟨x,0,none⟩):=hO 0 (by kernel_rfl) (Zm (by kernel_rfl))
    have e0:=Tv_ f0
    clear hF hO
    go_simp
    exact ⟨Zr_ _ _,rfl⟩
   |8,_=>
    obtain rfl:=Zo_ ho
    intro a wx hR hF hO
    have f40:a.eval (.tmp 40)=.pointer (some ⟨x,0,none⟩):=hF 40 7 _ (by kernel_rfl) rfl rfl
    have e40:=Tv_ f40
    clear hF hO
    go_simp
    exact ⟨Zr_ _ _,rfl⟩
   |9,_=>
    obtain rfl:=Zo_ ho
    intro a wx hR hF hO
    have f41:a.eval (.tmp 41)=.pointer (some ⟨x,0,none⟩):=hF 41 8 _ (by kernel_rfl) rfl rfl
    have e41:=Tv_ f41
    clear hF hO
    go_simp
    exact ⟨Zr_ _ _,rfl⟩
   |10,_=>
    obtain rfl:=Zo_ ho
    intro a wx hR hF hO
    have f42:a.eval (.tmp 42)=.pointer (some ⟨x,15,none⟩):=hF 42 9 _ (by kernel_rfl) rfl rfl
    have e42:=Tv_ f42
    clear hF hO
    obtain ⟨ck,cn,cx,cy,cr⟩:=HK.out wx hR
    go_simp
    exact ⟨Zr_ _ _,rfl⟩
   |11,_=>
    obtain rfl:=Zo_ ho
    intro a wx hR hF hO
    have f0:a.eval (.tmp 0)=.pointer (some ⟨x,0,none⟩):=hO 0 (by kernel_rfl) (Zm (by kernel_rfl))
    have e0:=Tv_ f0
    clear hF hO
    go_simp
    exact ⟨Zr_ _ _,rfl⟩
   |12,_=>
    obtain rfl:=Zo_ ho
    intro a wx hR hF hO
    have f44:a.eval (.tmp 44)=.pointer (some ⟨x,0,none⟩):=hF 44 11 _ (by kernel_rfl) rfl rfl
    have e44:=Tv_ f44
    clear hF hO
    go_simp
    exact ⟨Zr_ _ _,rfl⟩
   |13,_=>
    obtain rfl:=Zo_ ho
    intro a wx hR hF hO
    have f45:a.eval (.tmp 45)=.pointer (some ⟨x,0,none⟩):=hF 45 12 _ (by kernel_rfl) rfl rfl
    have e45:=Tv_ f45
    clear hF hO
    go_simp
    exact ⟨Zr_ _ _,rfl⟩
   |14,_=>
    obtain rfl:=Zo_ ho
    intro a wx hR hF hO
    have f46:a.eval (.tmp 46)=.pointer (some ⟨x,12,none⟩):=hF 46 13 _ (by kernel_rfl) rfl rfl
    have e46:=Tv_ f46
    clear hF hO
    obtain ⟨ck,cn,cx,cy,cr⟩:=HK.out wx hR
    go_simp
    exact ⟨Zr_ _ _,rfl⟩
   |15,_=>
    obtain rfl:=Zo_ ho
    intro a wx hR hF hO
    have f47:a.eval (.tmp 47)=.pointer (some ⟨r,0,none⟩):=hF 47 14 _ (by kernel_rfl) rfl rfl
    have e47:=Tv_ f47
    clear hF hO
    obtain ⟨ck,cn,cx,cy,cr⟩:=HK.out wx hR
    go_simp
    refine Calls.mono (Bj cr) ?_
    rintro e w' ⟨rfl,rfl⟩
    exact ⟨_,rfl,Zr_ _ _,rfl⟩
   |16,_=>
    obtain rfl:=Zo_ ho
    intro a wx hR hF hO
    have f33:a.eval (.tmp 33)=.int .i64 t:=hF 33 0 _ (by kernel_rfl) rfl rfl
    have e33:=Tv_ f33
    have f37:a.eval (.tmp 37)=.int .i64 begun:=hF 37 4 _ (by kernel_rfl) rfl rfl
    have e37:=Tv_ f37
    have f39:a.eval (.tmp 39)=.int .i64 prog:=hF 39 6 _ (by kernel_rfl) rfl rfl
    have e39:=Tv_ f39
    have f43:a.eval (.tmp 43)=.int .i64 st:=hF 43 10 _ (by kernel_rfl) rfl rfl
    have e43:=Tv_ f43
    have f48:a.eval (.tmp 48)=.int .i64 ro:=hF 48 15 _ (by kernel_rfl) rfl rfl
    have e48:=Tv_ f48
    clear hF hO
    go_simp
    exact ⟨Zr_ _ _,rfl⟩
   |17,_=>
    obtain rfl:=Zo_ ho
    intro a wx hR hF hO
    clear hF hO
    go_simp
    exact ⟨(Zr_ _ _).alloc _,_,rfl,heap_alloc_new _ _,Nat.le_trans hn0 hR.size⟩
   |j+18,hh=>omega
  ·intro vs w5 hR hv
   obtain ⟨g5,e7,k5,hg5⟩:Qw n0 (vs 17) w5:=hv 17 (by decide)
   have e49:vs 16=.agg (Z3 (Xj t begun prog st) {X1 with fr:=ro}).toArray:=hv 16 (by decide)
   have K5:=Zh_ k5
   have H5:=Zh_ ((Zr_ [] w2).drew.trans hR)
   have HG:=Zh_ (show w2.heap.size≤g5 by rw [←HN0.out];exact hg5)
   clear hR hv k5 hg5
   simp only [Xb,List.take_succ_cons,List.take_zero,Act.put,e7,e49]
   go_simp
   refine wpList_store_row rfl 50 _ _ rfl g5 (Z3 (Xj t begun prog st) {X1 with fr:=ro}).toArray rfl rfl 50 Z4 K5.out (by kernel_rfl) rfl (Rn t prog st ro begun) ?_
   go_wp2_with fail
   go_meet
   exact ⟨g5,rfl,Yo K5.out,HG.out,H5.out.setRow _ _ (.inr HG.out)⟩
 case rest=>
  obtain ⟨n7,rfl,D7,hn7,M7⟩:=hcut
  have X3:=M7.at HX2.out (by simp)
  have K3:=M7.at HK2.out (by simp)
  have B5:=M7.at HB5.out (by simp)
  have B6:=M7.at HB6.out (by simp)
  have MA:=Zh_ (HM2.out.trans M7)
  generalize wc=w3 at *
  obtain ⟨n0,hq0⟩:∃ n,n=w.heap.size:=⟨_,rfl⟩
  have HN0:=Zh_ (show n0≤w3.heap.size by rw [hq0];exact MA.out.size)
  have HQ0:=Zh_ hq0
  have HROW:=Zh_ (show ∀ wx,Ze [] w3.drew wx→wx.ownsRow 0 51 1 (.slice aa an ac) args.length (args.map (Value.float .f64))∧wx.ownsRow 0 106 3 (.slice ca cn ccap) code.length (Yj code)∧Zh 137 wx ab bb ms from
   fun wx hR=>by
    have m:Ze [] w wx:=(MA.out.drew).trans hR
    exact ⟨Ye HAR.out m,Ye HCO.out m,HMM.out.mod m (by simp) (by simp)⟩)
  have HK:=Zh_ (show ∀ wx,Ze [] w3.drew wx→wx.heap[x]? =some (.cells #[.int .i64 c0,.int .i64 c1,.int .i64 c2,.int .i64 c3,.slice (some ⟨pg,0,none⟩) nprogs pc,.int .i64 0,.int .i64 1,.int .i64 2,.int .i64 3,.int .i64 q4,.int .i64 q5,.pointer (some ⟨a,0,none⟩),.pointer (some ⟨r,0,none⟩),.slice (some ⟨tg,0,none⟩) ntn tc,.slice av nd cv,.int .i64 st] 79 (0,0))∧wx.heap[n6]? =some (.cells #[Value.int IntKind.i64 tag,Value.slice ca cn ccap] 110 (0,0))∧wx.heap[n5]? =some (.cells #[Value.int IntKind.i64 prog,Value.slice aa an ac] 63 (0,0)) from
   fun wx hR=>by
    have m:Ze [] w3 wx:=((Zr_ _ _).drew).trans hR
    exact ⟨m.at X3 (by simp),m.at B6 (by simp),m.at B5 (by simp)⟩)
  have HKK:=Zh_ (show ∀ wx,Ze [] w3.drew wx→wx.heap[k]? =some (.cells #[.slice (some ⟨cg,0,none⟩) ncalls cc,.int .i64 begun,.nilIface,.int .i64 ai] 87 (0,0)) from
   fun wx hR=>(((Zr_ _ _).drew).trans hR).at K3 (by simp))
  have hlk:=lt_of_block K3
  have hlx:=lt_of_block X3
  have b60:w3.cell? ⟨n6,0,none⟩=some (.int .i64 tag):=Za B6 rfl
  have HX3:=Zh_ X3
  have HD7:=Zh_ D7
  have HN7:=Zh_ hn7
  have HM7:=Zh_ M7
  clear hq0 X3 K3 B5 B6 D7 hn7 M7 h5 h6 hr hx hk hn0 HK2 HX2 HR2 HB5 HB6
  go_upto_if 52 with fail
  go_cut [] (fun wx=>∃ v w4,Ze [] w3.drew w4∧J5 n0 g v w4∧wx=w4.setCell ⟨k,2,none⟩ v)
  case first=>
   by_cases htag:tag=2
   ·have d52:(tag==2)=true:=by simp [htag]
    have hgw:g=.wr (Um c0 c1 c2 c3 tag code args):=HG0.out.trans (if_pos htag)
    have HTG:=Zh_ htag
    have HGW:=Zh_ hgw
    clear htag hgw
    go_wp2_with fail
    refine Yu (by kernel_rfl) 13 (by rfl) (fun x y=>Ze [] x y) (Rq k n5 x n0 t tag c0 c1 c2 c3 aa ca an ac cn ccap code args) (by kernel_rfl) (by rfl) (by kernel_rfl) (beg5F_on k n5 x n0 t tag c0 c1 c2 c3 aa ca an ac cn ccap code args) (fun a=>Zr_ _ _) (fun a b c h k=>h.trans k) ?_ ?_ ?_
    ·exact fun i v w' hv o ho hd=>Q8 (m:=13) (by kernel_rfl) (Wb k n5 x n0 t tag c0 c1 c2 c3 aa ca an ac cn ccap code args) ho hd
    ·intro i o hi ho
     match i,hi with
     |0,_=>
      obtain rfl:=Zo_ ho
      intro a wx hR hF hO
      have f4:a.eval (.tmp 4)=.pointer (some ⟨k,0,none⟩):=hO 4 (by kernel_rfl) (Zm (by kernel_rfl))
      have e4:=Tv_ f4
      clear hF hO
      go_simp
      exact ⟨Zr_ _ _,rfl⟩
     |1,_=>
      obtain rfl:=Zo_ ho
      intro a wx hR hF hO
      have f0:a.eval (.tmp 0)=.pointer (some ⟨x,0,none⟩):=hO 0 (by kernel_rfl) (Zm (by kernel_rfl))
      have e0:=Tv_ f0
      clear hF hO
      go_simp
      exact ⟨Zr_ _ _,rfl⟩
     |2,_=>
      obtain rfl:=Zo_ ho
      intro a wx hR hF hO
      have f54:a.eval (.tmp 54)=.pointer (some ⟨x,0,none⟩):=hF 54 1 _ (by kernel_rfl) rfl rfl
      have e54:=Tv_ f54
      clear hF hO
      go_simp
      exact ⟨Zr_ _ _,rfl⟩
     |3,_=>
      obtain rfl:=Zo_ ho
      intro a wx hR hF hO
      have f55:a.eval (.tmp 55)=.pointer (some ⟨x,0,none⟩):=hF 55 2 _ (by kernel_rfl) rfl rfl
      have e55:=Tv_ f55
      clear hF hO
      go_simp
      exact ⟨Zr_ _ _,rfl⟩
     |4,_=>
      obtain rfl:=Zo_ ho
      intro a wx hR hF hO
      have f56:a.eval (.tmp 56)=.pointer (some ⟨x,0,none⟩):=hF 56 3 _ (by kernel_rfl) rfl rfl
      have e56:=Tv_ f56
      clear hF hO
      obtain ⟨cx,c6,c5⟩:=HK.out wx hR
      have c0:=Za (i:=0) cx rfl
      have c1:=Za (i:=1) cx rfl
      have c2:=Za (i:=2) cx rfl
      have c3:=Za (i:=3) cx rfl
      go_simp
      exact ⟨Zr_ _ _,rfl⟩
     |5,_=>
      obtain rfl:=Zo_ ho
      intro a wx hR hF hO
      have f1:a.eval (.tmp 1)=.int .i64 t:=hO 1 (by kernel_rfl) (Zm (by kernel_rfl))
      have e1:=Tv_ f1
      clear hF hO
      go_simp
      exact ⟨Zr_ _ _,rfl⟩
     |6,_=>
      obtain rfl:=Zo_ ho
      intro a wx hR hF hO
      have f6:a.eval (.tmp 6)=.pointer (some ⟨n6,0,none⟩):=hO 6 (by kernel_rfl) (Zm (by kernel_rfl))
      have e6:=Tv_ f6
      clear hF hO
      obtain ⟨cx,c6,c5⟩:=HK.out wx hR
      have d0:=Za (i:=0) c6 rfl
      have d1:=Za (i:=1) c6 rfl
      go_simp
      exact ⟨Zr_ _ _,rfl⟩
     |7,_=>
      obtain rfl:=Zo_ ho
      intro a wx hR hF hO
      have f5:a.eval (.tmp 5)=.pointer (some ⟨n5,0,none⟩):=hO 5 (by kernel_rfl) (Zm (by kernel_rfl))
      have e5:=Tv_ f5
      clear hF hO
      go_simp
      exact ⟨Zr_ _ _,rfl⟩
     |8,_=>
      obtain rfl:=Zo_ ho
      intro a wx hR hF hO
      have f60:a.eval (.tmp 60)=.pointer (some ⟨n5,1,none⟩):=hF 60 7 _ (by kernel_rfl) rfl rfl
      have e60:=Tv_ f60
      clear hF hO
      obtain ⟨cx,c6,c5⟩:=HK.out wx hR
      have d1:=Za (i:=1) c5 rfl
      go_simp
      exact ⟨Zr_ _ _,rfl⟩
     |9,_=>
      obtain rfl:=Zo_ ho
      intro a wx hR hF hO
      have f57:a.eval (.tmp 57)=.agg #[.int .i64 c0,.int .i64 c1,.int .i64 c2,.int .i64 c3]:=hF 57 4 _ (by kernel_rfl) rfl rfl
      have e57:=Tv_ f57
      have f58:a.eval (.tmp 58)=.int .i64 t:=hF 58 5 _ (by kernel_rfl) rfl rfl
      have e58:=Tv_ f58
      have f59:a.eval (.tmp 59)=.agg #[.int .i64 tag,.slice ca cn ccap]:=hF 59 6 _ (by kernel_rfl) rfl rfl
      have e59:=Tv_ f59
      have f61:a.eval (.tmp 61)=.slice aa an ac:=hF 61 8 _ (by kernel_rfl) rfl rfl
      have e61:=Tv_ f61
      clear hF hO
      obtain ⟨hA,hC,hM⟩:=HROW.out wx hR
      go_simp
      refine Calls.mono (wnew_c HCF.out t HT0.out HTC.out hC HCL.out hA HAL.out hM) ?_
      rintro e w' ⟨q,rfl,A,B,C,M,D⟩
      exact ⟨_,rfl,M,q,rfl,A,B,fun k hk=>Nat.le_trans HN0.out (Nat.le_trans hR.size (D k hk))⟩
     |10,_=>
      obtain rfl:=Zo_ ho
      intro a wx hR hF hO
      have e62:Dh n0 (Um c0 c1 c2 c3 tag code args) (a.eval (.tmp 62)) wx:=hF 62 9 _ (by kernel_rfl) rfl rfl
      clear hF hO
      obtain ⟨q,q62,hrest⟩:=e62
      replace q62:a.tmps[62]?.getD undef=_:=(show a.tmps[62]?.getD undef=a.eval (.tmp 62) by simp [Act.eval]).trans q62
      have HG:=Zh_ hrest
      clear hrest
      go_simp
      exact ⟨Zr_ _ _,q,rfl,HG.out⟩
     |11,_=>
      obtain rfl:=Zo_ ho
      intro a wx hR hF hO
      have f53:a.eval (.tmp 53)=.pointer (some ⟨k,0,none⟩):=hF 53 0 _ (by kernel_rfl) rfl rfl
      have e53:=Tv_ f53
      clear hF hO
      go_simp
      exact ⟨Zr_ _ _,rfl⟩
     |12,_=>
      obtain rfl:=Zo_ ho
      intro a wx hR hF hO
      have f64:a.eval (.tmp 64)=.pointer (some ⟨k,0,none⟩):=hF 64 11 _ (by kernel_rfl) rfl rfl
      have e64:=Tv_ f64
      clear hF hO
      go_simp
      exact ⟨Zr_ _ _,rfl⟩
     |j+13,hh=>omega
    ·intro vs w5 hR hv
     obtain ⟨q,e63,hn⟩:J5 n0 (.wr (Um c0 c1 c2 c3 tag code args)) (vs 10) w5:=hv 10 (by decide)
     have e65:vs 12=.pointer (some ⟨k,2,none⟩):=hv 12 (by decide)
     have k2:=Za (i:=2) (HKK.out w5 hR) rfl
     have z2:=Zb (i:=2) (HKK.out w5 hR)
     have HN:=Zh_ hn
     have H5:=Zh_ hR
     clear hv hn
     simp only [Xb,List.take_succ_cons,List.take_zero,Act.put,e63,e65]
     go_simp
     go_wp2_with fail
     go_meet
     exact ⟨_,w5,H5.out,by rw [HGW.out];exact ⟨q,rfl,HN.out⟩,rfl⟩
   ·have d52:(tag==2)=false:=by simp [htag]
    have hgw:g=.rd (Un c0 c1 c2 c3 t tag code args):=HG0.out.trans (if_neg htag)
    have HTG:=Zh_ htag
    have HGW:=Zh_ hgw
    clear htag hgw
    go_wp2_with fail
    refine Yu (by kernel_rfl) 13 (by rfl) (fun x y=>Ze [] x y) (Rp k n5 x n0 t tag c0 c1 c2 c3 aa ca an ac cn ccap code args) (by kernel_rfl) (by rfl) (by kernel_rfl) (beg6F_on k n5 x n0 t tag c0 c1 c2 c3 aa ca an ac cn ccap code args) (fun a=>Zr_ _ _) (fun a b c h k=>h.trans k) ?_ ?_ ?_
    ·exact fun i v w' hv o ho hd=>Q8 (m:=13) (by kernel_rfl) (Wa k n5 x n0 t tag c0 c1 c2 c3 aa ca an ac cn ccap code args) ho hd
    ·intro i o hi ho
     match i,hi with
     |0,_=>
      obtain rfl:=Zo_ ho
      intro a wx hR hF hO
      have f4:a.eval (.tmp 4)=.pointer (some ⟨k,0,none⟩):=hO 4 (by kernel_rfl) (Zm (by kernel_rfl))
      have e4:=Tv_ f4
      clear hF hO
      go_simp
      exact ⟨Zr_ _ _,rfl⟩
     |1,_=>
      obtain rfl:=Zo_ ho
      intro a wx hR hF hO
      have f0:a.eval (.tmp 0)=.pointer (some ⟨x,0,none⟩):=hO 0 (by kernel_rfl) (Zm (by kernel_rfl))
      have e0:=Tv_ f0
      clear hF hO
      go_simp
      exact ⟨Zr_ _ _,rfl⟩
     |2,_=>
      obtain rfl:=Zo_ ho
      intro a wx hR hF hO
      have f67:a.eval (.tmp 67)=.pointer (some ⟨x,0,none⟩):=hF 67 1 _ (by kernel_rfl) rfl rfl
      have e67:=Tv_ f67
      clear hF hO
      go_simp
      exact ⟨Zr_ _ _,rfl⟩
     |3,_=>
      obtain rfl:=Zo_ ho
      intro a wx hR hF hO
      have f68:a.eval (.tmp 68)=.pointer (some ⟨x,0,none⟩):=hF 68 2 _ (by kernel_rfl) rfl rfl
      have e68:=Tv_ f68
      clear hF hO
      go_simp
      exact ⟨Zr_ _ _,rfl⟩
     |4,_=>
      obtain rfl:=Zo_ ho
      intro a wx hR hF hO
      have f69:a.eval (.tmp 69)=.pointer (some ⟨x,0,none⟩):=hF 69 3 _ (by kernel_rfl) rfl rfl
      have e69:=Tv_ f69
      clear hF hO
      obtain ⟨cx,c6,c5⟩:=HK.out wx hR
      have c0:=Za (i:=0) cx rfl
      have c1:=Za (i:=1) cx rfl
      have c2:=Za (i:=2) cx rfl
      have c3:=Za (i:=3) cx rfl
      go_simp
      exact ⟨Zr_ _ _,rfl⟩
     |5,_=>
      obtain rfl:=Zo_ ho
      intro a wx hR hF hO
      have f1:a.eval (.tmp 1)=.int .i64 t:=hO 1 (by kernel_rfl) (Zm (by kernel_rfl))
      have e1:=Tv_ f1
      clear hF hO
      go_simp
      exact ⟨Zr_ _ _,rfl⟩
     |6,_=>
      obtain rfl:=Zo_ ho
      intro a wx hR hF hO
      have f6:a.eval (.tmp 6)=.pointer (some ⟨n6,0,none⟩):=hO 6 (by kernel_rfl) (Zm (by kernel_rfl))
      have e6:=Tv_ f6
      clear hF hO
      obtain ⟨cx,c6,c5⟩:=HK.out wx hR
      have d0:=Za (i:=0) c6 rfl
      have d1:=Za (i:=1) c6 rfl
      go_simp
      exact ⟨Zr_ _ _,rfl⟩
     |7,_=>
      obtain rfl:=Zo_ ho
      intro a wx hR hF hO
      have f5:a.eval (.tmp 5)=.pointer (some ⟨n5,0,none⟩):=hO 5 (by kernel_rfl) (Zm (by kernel_rfl))
      have e5:=Tv_ f5
      clear hF hO
      go_simp
      exact ⟨Zr_ _ _,rfl⟩
     |8,_=>
      obtain rfl:=Zo_ ho
      intro a wx hR hF hO
      have f73:a.eval (.tmp 73)=.pointer (some ⟨n5,1,none⟩):=hF 73 7 _ (by kernel_rfl) rfl rfl
      have e73:=Tv_ f73
      clear hF hO
      obtain ⟨cx,c6,c5⟩:=HK.out wx hR
      have d1:=Za (i:=1) c5 rfl
      go_simp
      exact ⟨Zr_ _ _,rfl⟩
     |9,_=>
      obtain rfl:=Zo_ ho
      intro a wx hR hF hO
      have f70:a.eval (.tmp 70)=.agg #[.int .i64 c0,.int .i64 c1,.int .i64 c2,.int .i64 c3]:=hF 70 4 _ (by kernel_rfl) rfl rfl
      have e70:=Tv_ f70
      have f71:a.eval (.tmp 71)=.int .i64 t:=hF 71 5 _ (by kernel_rfl) rfl rfl
      have e71:=Tv_ f71
      have f72:a.eval (.tmp 72)=.agg #[.int .i64 tag,.slice ca cn ccap]:=hF 72 6 _ (by kernel_rfl) rfl rfl
      have e72:=Tv_ f72
      have f74:a.eval (.tmp 74)=.slice aa an ac:=hF 74 8 _ (by kernel_rfl) rfl rfl
      have e74:=Tv_ f74
      clear hF hO
      obtain ⟨hA,hC,hM⟩:=HROW.out wx hR
      go_simp
      refine Calls.mono (rnew_c HCF.out t HT0.out HTC.out hC HCL.out hA HAL.out hM) ?_
      rintro e w' ⟨q,rfl,A,C,M,D⟩
      exact ⟨_,rfl,M,q,rfl,A,fun k hk=>Nat.le_trans HN0.out (Nat.le_trans hR.size (D k hk))⟩
     |10,_=>
      obtain rfl:=Zo_ ho
      intro a wx hR hF hO
      have e75:Dl n0 (Un c0 c1 c2 c3 t tag code args) (a.eval (.tmp 75)) wx:=hF 75 9 _ (by kernel_rfl) rfl rfl
      clear hF hO
      obtain ⟨q,q75,hrest⟩:=e75
      replace q75:a.tmps[75]?.getD undef=_:=(show a.tmps[75]?.getD undef=a.eval (.tmp 75) by simp [Act.eval]).trans q75
      have HG:=Zh_ hrest
      clear hrest
      go_simp
      exact ⟨Zr_ _ _,q,rfl,HG.out⟩
     |11,_=>
      obtain rfl:=Zo_ ho
      intro a wx hR hF hO
      have f66:a.eval (.tmp 66)=.pointer (some ⟨k,0,none⟩):=hF 66 0 _ (by kernel_rfl) rfl rfl
      have e66:=Tv_ f66
      clear hF hO
      go_simp
      exact ⟨Zr_ _ _,rfl⟩
     |12,_=>
      obtain rfl:=Zo_ ho
      intro a wx hR hF hO
      have f77:a.eval (.tmp 77)=.pointer (some ⟨k,0,none⟩):=hF 77 11 _ (by kernel_rfl) rfl rfl
      have e77:=Tv_ f77
      clear hF hO
      go_simp
      exact ⟨Zr_ _ _,rfl⟩
     |j+13,hh=>omega
    ·intro vs w5 hR hv
     obtain ⟨q,e63,hn⟩:J5 n0 (.rd (Un c0 c1 c2 c3 t tag code args)) (vs 10) w5:=hv 10 (by decide)
     have e65:vs 12=.pointer (some ⟨k,2,none⟩):=hv 12 (by decide)
     have k2:=Za (i:=2) (HKK.out w5 hR) rfl
     have z2:=Zb (i:=2) (HKK.out w5 hR)
     have HN:=Zh_ hn
     have H5:=Zh_ hR
     clear hv hn
     simp only [Xb,List.take_succ_cons,List.take_zero,Act.put,e63,e65]
     go_simp
     go_wp2_with fail
     go_meet
     exact ⟨_,w5,H5.out,by rw [HGW.out];exact ⟨q,rfl,HN.out⟩,rfl⟩
  case rest=>
   obtain ⟨v,w4,M4,HGN,rfl⟩:=hcut
   have hkx:x≠k:=fun e=>by
    have h1:=HX0.out
    have h2:=HK0.out
    rw [e,h2] at h1
    simp at h1
   have K4:(w4.setCell ⟨k,2,none⟩ v).heap[k]? =some (.cells #[.slice (some ⟨cg,0,none⟩) ncalls cc,.int .i64 begun,v,.int .i64 ai] 87 (0,0)):=Zd _ (HKK.out w4 M4)
   have m4:Ze [k] w4 (w4.setCell ⟨k,2,none⟩ v):=(Zr_ _ _).setCell _ _ (.inl (by simp))
   have X4:=m4.at (HK.out w4 M4).1 (by simpa using hkx)
   have hkl:k < w.heap.size:=lt_of_block HK0.out
   have hxl:x < w.heap.size:=lt_of_block HX0.out
   have hs7:w.heap.size≤n7:=Nat.le_trans HM2.out.size HN7.out
   have D4:=m4.at ((((Zr_ _ _).drew).trans M4).at HD7.out (by simp)) (by simp;omega)
   have G4:=Zh_ (HGN.mod m4 (by intro j hj;simp at hj;subst hj;rw [HQ0.out];exact hkl))
   have A4:=Zh_ (((MA.out.drew.trans M4).weak [k]).trans m4)
   have hrow4:(w4.setCell ⟨k,2,none⟩ v).ownsRow 0 50 19 (.slice av nd cv) nd dl:=Zs HVD.out A4.out (by intro g hg;have:=HDK.out;rw [hg] at this;simp at this ⊢;exact this)
   have HKX:=Zh_ hkx
   have HKL:=Zh_ hkl
   have HXL:=Zh_ hxl
   have HS7:=Zh_ hs7
   have HX4:=Zh_ X4
   have HD4:=Zh_ D4
   have HR4:=Zh_ hrow4
   have k4:(w4.setCell ⟨k,2,none⟩ v).cell? ⟨k,1,none⟩=some (.int .i64 begun):=Za K4 rfl
   have z4:(w4.setCell ⟨k,2,none⟩ v).frozen? ⟨k,1,none⟩=false:=Zb K4
   have hlk4:=lt_of_block K4
   have HK4:=Zh_ K4
   have hnc:=HNC.out
   clear HGN m4 M4 X4 D4 hkx hkl hxl hs7 hrow4 K4
   generalize w4.setCell ⟨k,2,none⟩ v=w5 at *
   go_upto_region 8 with fail
   have K6:(w5.setCell ⟨k,1,none⟩ (.int .i64 ((begun:Int)+1))).heap[k]? =some (.cells #[.slice (some ⟨cg,0,none⟩) ncalls cc,.int .i64 ((begun:Int)+1),v,.int .i64 ai] 87 (0,0)):=Zd _ HK4.out
   have m6:Ze [k] w5 (w5.setCell ⟨k,1,none⟩ (.int .i64 ((begun:Int)+1))):=(Zr_ _ _).setCell _ _ (.inl (by simp))
   have X6:=m6.at HX4.out (by simpa using HKX.out)
   have HM6:=Zh_ m6
   have HX6:=Zh_ X6
   have HK6:=Zh_ K6
   have k6:(w5.setCell ⟨k,1,none⟩ (.int .i64 ((begun:Int)+1))).cell? ⟨k,3,none⟩=some (.int .i64 ai):=Za K6 rfl
   have z6:(w5.setCell ⟨k,1,none⟩ (.int .i64 ((begun:Int)+1))).frozen? ⟨k,3,none⟩=false:=Zb K6
   have x6:(w5.setCell ⟨k,1,none⟩ (.int .i64 ((begun:Int)+1))).cell? ⟨x,14,none⟩=some (.slice av nd cv):=Za X6 rfl
   have hlk6:=lt_of_block K6
   have hlx6:=lt_of_block X6
   clear m6 X6 K6 k4 z4 hlk4
   generalize w5.setCell ⟨k,1,none⟩ (.int .i64 ((begun:Int)+1))=w6 at *
   go_upto_region 9 with fail
   have K7:(w6.setCell ⟨k,3,none⟩ (.int .i64 nd)).heap[k]? =some (.cells #[.slice (some ⟨cg,0,none⟩) ncalls cc,.int .i64 ((begun:Int)+1),v,.int .i64 nd] 87 (0,0)):=Zd _ HK6.out
   have m7:Ze [k] w5 (w6.setCell ⟨k,3,none⟩ (.int .i64 nd)):=HM6.out.setCell _ _ (.inl (by simp))
   have X7:=m7.at HX4.out (by simpa using HKX.out)
   have D7:=m7.at HD4.out (by have:=HS7.out;have:=HKL.out;simp;omega)
   have R7:(w6.setCell ⟨k,3,none⟩ (.int .i64 nd)).ownsRow 0 50 19 (.slice av nd cv) nd dl:=Zs HR4.out m7 (by intro g hg;have:=HDK.out;rw [hg] at this;simp at this ⊢;exact this)
   have HM7:=Zh_ m7
   have HG7:=Zh_ (G4.out.mod m7 (by intro j hj;simp at hj;subst hj;rw [HQ0.out];exact HKL.out))
   have HX7:=Zh_ X7
   have HK7:=Zh_ K7
   have HD7:=Zh_ D7
   have HR7:=Zh_ R7
   have x7:(w6.setCell ⟨k,3,none⟩ (.int .i64 nd)).cell? ⟨x,14,none⟩=some (.slice av nd cv):=Za X7 rfl
   have zx7:(w6.setCell ⟨k,3,none⟩ (.int .i64 nd)).frozen? ⟨x,14,none⟩=false:=Zb X7
   have hlx7:=lt_of_block X7
   have hl7:=lt_of_block D7
   clear m7 X7 K7 D7 R7 k6 z6 x6 hlk6 hlx6
   generalize w6.setCell ⟨k,3,none⟩ (.int .i64 nd)=w7 at *
   obtain ⟨cs,hcs⟩:∃ cs:Array Value,cs=(Z3 (Xj t begun prog st) {X1 with fr:=ro}).toArray:=⟨_,rfl⟩
   have hcz:cs.size=19:=by rw [hcs];rfl
   have hone:∀ u∈cs.toList,u.oneCell'=true:=by
    rw [hcs]
    intro u hu
    have:=Rn t prog st ro begun
    rw [Array.all_eq_true_iff_forall_mem] at this
    exact this u (by simpa using hu)
   obtain ⟨i0,z0,hi0,hz0,hz1,hz2,hz3⟩:=info50
   obtain ⟨n9,hn9⟩:∃ n,n=w7.heap.size:=⟨_,rfl⟩
   have HCS:=Zh_ hcz
   have HCE:=Zh_ hcs
   have HONE:=Zh_ hone
   have HNE:=Zh_ hn9
   have HN9:=Zh_ (show n9≤w7.drew.heap.size from Nat.le_of_eq hn9)
   have HXW:=Zh_ (show ∀ wx,Ze (Value.slice av nd cv).ownBlock.toList w7.drew wx→wx.heap[x]? =some (.cells #[.int .i64 c0,.int .i64 c1,.int .i64 c2,.int .i64 c3,.slice (some ⟨pg,0,none⟩) nprogs pc,.int .i64 0,.int .i64 1,.int .i64 2,.int .i64 3,.int .i64 q4,.int .i64 q5,.pointer (some ⟨a,0,none⟩),.pointer (some ⟨r,0,none⟩),.slice (some ⟨tg,0,none⟩) ntn tc,.slice av nd cv,.int .i64 st] 79 (0,0)) from
    fun wx hR=>(((Zr_ _ w7).drew).trans hR).at HX7.out (fun hm=>HDX.out (Option.mem_toList.1 hm)))
   have HDW:=Zh_ (show ∀ wx,Ze (Value.slice av nd cv).ownBlock.toList w7.drew wx→wx.heap[n7]? =some (.cells cs 50 (0,0)) from
    fun wx hR=>by rw [HCE.out];exact (((Zr_ _ w7).drew).trans hR).at HD7.out (fun hm=>by have:=Yr HVD.out (Option.mem_toList.1 hm);have:=HS7.out;omega))
   have HGL:=Zh_ (show ∀ g,(Value.slice av nd cv).ownBlock=some g→g < n9 from fun g hg=>by rw [hn9];exact Yr HR7.out hg)
   clear hcs hcz hone hn9 x7 zx7 hlx7 hl7
   refine Ub (by kernel_rfl) 10 (by rfl) (Ze (Value.slice av nd cv).ownBlock.toList) (J1 av nd cv) 7 (Ze [] w7.drew) (Ro x n9 av cv nd dl cs) (by kernel_rfl) (by rfl) (by kernel_rfl) (beg9F_on x n9 av cv nd dl cs HGL.out) (fun i a b h=>A7 h) (fun j a b hj h k=>k.trans (A8 hj h)) (Zr_ _ _) (fun a=>Zr_ _ _) (fun a b c h k=>h.trans k) (fun i v w' hv o ho hd=>Q8 (m:=10) (by kernel_rfl) (A9 x n9 av cv nd dl cs) ho hd) ?_ ?_
   ·intro i o hi ho
    match i,hi with
    |0,_=>
     obtain rfl:=Zo_ ho
     intro a wx hR hB hF hO
     have f0:a.eval (.tmp 0)=.pointer (some ⟨x,0,none⟩):=hO 0 (by kernel_rfl) (Zm (by kernel_rfl))
     have e0:=Tv_ f0
     clear hF hO hB hR
     go_simp
     exact ⟨V3 (by decide) (Zr_ _ _),rfl⟩
    |1,_=>
     obtain rfl:=Zo_ ho
     intro a wx hR hB hF hO
     have f0:a.eval (.tmp 0)=.pointer (some ⟨x,0,none⟩):=hO 0 (by kernel_rfl) (Zm (by kernel_rfl))
     have e0:=Tv_ f0
     clear hF hO hB hR
     go_simp
     exact ⟨V3 (by decide) (Zr_ _ _),rfl⟩
    |2,_=>
     obtain rfl:=Zo_ ho
     intro a wx hR hB hF hO
     have f95:a.eval (.tmp 95)=.pointer (some ⟨x,0,none⟩):=hF 95 1 _ (by kernel_rfl) rfl rfl
     have e95:=Tv_ f95
     clear hF hO hB hR
     go_simp
     exact ⟨V3 (by decide) (Zr_ _ _),rfl⟩
    |3,_=>
     obtain rfl:=Zo_ ho
     intro a wx hR hB hF hO
     have f96:a.eval (.tmp 96)=.pointer (some ⟨x,0,none⟩):=hF 96 2 _ (by kernel_rfl) rfl rfl
     have e96:=Tv_ f96
     clear hF hO hB hR
     go_simp
     exact ⟨V3 (by decide) (Zr_ _ _),rfl⟩
    |4,_=>
     obtain rfl:=Zo_ ho
     intro a wx hR hB hF hO
     have f97:a.eval (.tmp 97)=.pointer (some ⟨x,14,none⟩):=hF 97 3 _ (by kernel_rfl) rfl rfl
     have e97:=Tv_ f97
     have c14:wx.cell? ⟨x,14,none⟩=some (.slice av nd cv):=Za (HXW.out wx hR) rfl
     clear hF hO hB hR
     go_simp
     exact ⟨V3 (by decide) (Zr_ _ _),rfl⟩
    |5,_=>
     obtain rfl:=Zo_ ho
     intro a wx hR hB hF hO
     have f7:a.eval (.tmp 7)=.pointer (some ⟨n7,0,none⟩):=hO 7 (by kernel_rfl) (Zm (by kernel_rfl))
     exact Ui 50 _ rfl n7 f7 50 cs (0,0) _ (HDW.out wx hR) underlying50 rfl (by rw [HCS.out];kernel_rfl) ⟨V3 (by decide) (Zr_ _ _),rfl⟩
    |6,_=>
     obtain rfl:=Zo_ ho
     intro a wx hR hB hF hO
     have f99:a.eval (.tmp 99)=.agg cs:=hF 99 5 _ (by kernel_rfl) rfl rfl
     exact Qv 38 50 _ rfl cs f99 i0 z0 underlying38 hi0 hz0 (by rw [hz1,HCS.out]) (by rw [HCS.out];decide) (by rw [HCS.out];decide) ⟨V3 (by decide) ((Zr_ _ _).alloc _),_,rfl,Zc _ _,Nat.le_trans HN9.out hR.size⟩
    |7,_=>
     obtain rfl:=Zo_ ho
     intro a wx hR hB hF hO
     have f98:a.eval (.tmp 98)=.slice av nd cv:=hF 98 4 _ (by kernel_rfl) rfl rfl
     obtain ⟨B,f100,hB2,hB3⟩:∃ B,a.eval (.tmp 100)=.slice (some ⟨B,0,none⟩) 1 1∧wx.heap[B]? =some (.cells cs 50 (0,0))∧n9≤B:=hF 100 6 _ (by kernel_rfl) rfl rfl
     have hnd:=HND.out
     refine Xh (.tmp 98) (.tmp 100) 38 rfl 0 50 i0 z0 19 216 underlying38 hi0 hz0 hz1 hz2 hz3 (by decide) (.slice av nd cv) nd dl f98 (Ye HR7.out (((Zr_ [] w7).drew).trans (hB rfl))) ⟨B,0,none⟩ 1 1 cs.toList f100 (by rw [Array.length_toList,HCS.out]) (World.news_of_block hB2) HONE.out (by unfold maxLen;omega) (by omega) (Nat.zero_le _) ?_
     intro v' w' ho hg hat
     refine ⟨?_,ho,fun g hv=>?_⟩
     ·unfold J1
      rw [if_pos rfl]
      exact (Zr_ _ wx).grown hg (fun g hg=>.inl (Option.mem_toList.2 hg))
     ·rcases hat with e|e
      ·exact .inl (e.symm.trans hv)
      ·rw [e] at hv
       simp at hv
       exact .inr (by rw [←hv];exact Nat.le_trans HN9.out hR.size)
    |8,_=>
     obtain rfl:=Zo_ ho
     intro a wx hR hB hF hO
     have f94:a.eval (.tmp 94)=.pointer (some ⟨x,0,none⟩):=hF 94 0 _ (by kernel_rfl) rfl rfl
     have e94:=Tv_ f94
     clear hF hO hB hR
     go_simp
     exact ⟨V3 (by decide) (Zr_ _ _),rfl⟩
    |9,_=>
     obtain rfl:=Zo_ ho
     intro a wx hR hB hF hO
     have f102:a.eval (.tmp 102)=.pointer (some ⟨x,0,none⟩):=hF 102 8 _ (by kernel_rfl) rfl rfl
     have e102:=Tv_ f102
     clear hF hO hB hR
     go_simp
     exact ⟨V3 (by decide) (Zr_ _ _),rfl⟩
    |j+10,hh=>omega
   ·intro vs w8 hR hv
    have e103:vs 9=.pointer (some ⟨x,14,none⟩):=hv 9 (by decide)
    obtain ⟨ho,hat⟩:w8.ownsRow 0 50 19 (vs 7) (nd+1) (dl++cs.toList)∧∀ g,(vs 7).ownBlock=some g→(Value.slice av nd cv).ownBlock=some g∨n9≤g:=hv 7 (by decide)
    obtain ⟨g5,cap5,e7,_⟩:=Yd ho (by omega)
    rw [e7] at ho hat
    have X8:=HXW.out w8 hR
    have x8:=Za (i:=14) X8 rfl
    have zx8:=Zb (i:=14) X8
    have HX8:=Zh_ X8
    have HO:=Zh_ ho
    have HAT:=Zh_ hat
    have H8:=Zh_ hR
    clear hv ho hat hR X8
    simp only [Xb,List.take_succ_cons,List.take_zero,Act.put,e7,e103]
    go_simp
    go_wp2_with fail
    go_end0
    have hw7:w.heap.size≤w7.heap.size:=Nat.le_trans A4.out.size HM7.out.size
    have hn9:w.heap.size≤n9:=by rw [HNE.out];exact hw7
    have m8:Ze (Value.slice av nd cv).ownBlock.toList w7 w8:=((Zr_ _ w7).drew).trans H8.out
    have m9:Ze [x] w8 (w8.setCell ⟨x,14,none⟩ (.slice (some ⟨g5,0,none⟩) (nd+1) cap5)):=(Zr_ _ _).setCell _ _ (.inl (by simp))
    have hd0:∀ j,j∈(Value.slice av nd cv).ownBlock.toList→j < w.heap.size:=fun j hj=>Yr HVD.out (Option.mem_toList.1 hj)
    have hkx:=HKX.out
    have hxl:=HXL.out
    have hkl:=HKL.out
    have hg5:∀ j,(Value.slice (some ⟨g5,0,none⟩) (nd+1) cap5).ownBlock=some j→(Value.slice av nd cv).ownBlock=some j∨w.heap.size≤j:=fun j hj=>(HAT.out j hj).imp id (fun h=>Nat.le_trans hn9 h)
    refine ⟨rfl,v,.slice (some ⟨g5,0,none⟩) (nd+1) cap5,?_,?_,?_,?_,hg5,?_⟩
    ·have g7:=HG7.out
     rw [HQ0.out] at g7
     exact (g7.mod m8 hd0).mod m9 (by intro j hj;simp at hj;subst hj;exact hxl)
    ·exact m9.at (m8.at HK7.out (fun hm=>HDK.out (Option.mem_toList.1 hm))) (by simpa using Ne.symm hkx)
    ·exact Zd _ HX8.out
    ·have ho:=Zs HO.out m9 (fun j hj hm=>by
      simp at hm
      subst hm
      rcases hg5 _ hj with e|e
      ·exact HDX.out e
      ·omega)
     rw [HCE.out] at ho
     exact ho
    ·have a1:Ze (k :: x :: (Value.slice av nd cv).ownBlock.toList) w w7:=(A4.out.trans HM7.out).mono (fun j hj=>.inl (by simp at hj;simp [hj]))
     refine (a1.trans (m8.mono (fun j hj=>.inl (by simp [List.mem_cons,hj])))).trans (m9.mono (fun j hj=>.inl (by simp at hj;simp [hj])))
end
end Go.Proofs.YtkhonmhnchdpkaaGreat
