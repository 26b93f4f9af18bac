/- A part of the proof; no condition. -/
import Derived.Test.YtkhonmhnchdpkaaGreatRows
import Derived.WalkKit
import Derived.WalkSpells
import Derived.WalkLawsBesides
import Derived.Lib.Hide
import Derived.Deep.Draws
import Derived.Deep.QuietTactic
import Derived.BigQuiet
import Derived.Deep.DeepCutAuto
import Derived.Deep.CutBlock
import Derived.Deep.RegionHeld3
import Derived.StillTailTactics
import Derived.IntWalk
set_option maxRecDepth 100000
set_option maxHeartbeats 40000000
namespace Go.Proofs.YtkhonmhnchdpkaaGreat
open Go.RowKit _root_.Go.Proofs.Tryz
abbrev Zh_:=@Lib.hid
abbrev Zo_:=@Option.some.inj
section
structure Ze (S:List Nat) (w w':World):Prop where
 os:w'.os=w.os
 tape:w'.tape=w.tape
 output:w'.output=w.output
 size:w.heap.size<=w'.heap.size
 block:∀ k,k < w.heap.size->k∉S->w'.heap[k]? =w.heap[k]?
theorem Zr_ (S:List Nat) (w:World):Ze S w w:=⟨rfl,rfl,rfl,Nat.le_refl _,λ _ _ _=>rfl⟩
theorem Ze.trans {S:List Nat} {a b c:World} (h:Ze S a b) (k:Ze S b c):Ze S a c:=
 ⟨k.os.trans h.os,k.tape.trans h.tape,k.output.trans h.output,Nat.le_trans h.size k.size,
  λ i hi hs=>(k.block i (Nat.lt_of_lt_of_le hi h.size) hs).trans (h.block i hi hs)⟩
theorem Ze.mono {S T:List Nat} {a b:World} (h:Ze S a b) (hs:∀ x∈S,x∈T\/a.heap.size<=x):Ze T a b:=
 ⟨h.os,h.tape,h.output,h.size,λ i hi ht=>h.block i hi (λ hm=>(hs i hm).elim ht (λ h'=>by omega))⟩
theorem Ze.drew {S:List Nat} {a b:World} (h:Ze S a b):Ze S a b.drew:=⟨h.os,h.tape,h.output,h.size,h.block⟩
theorem Ze.alloc {S:List Nat} {a b:World} (h:Ze S a b) (o:Obj):Ze S a (b.alloc o):=
 ⟨h.os,h.tape,h.output,Nat.le_trans h.size (by simp),λ i hi hs=>(Below.heap_alloc _ _ _ (Nat.lt_of_lt_of_le hi h.size)).trans (h.block i hi hs)⟩
theorem Ze.setCell {S:List Nat} {a b:World} (h:Ze S a b) (p:Addr) (u:Value) (hp:p.block∈S\/a.heap.size<=p.block):Ze S a (b.setCell p u):=
 ⟨h.os,h.tape,h.output,Nat.le_trans h.size (by simp),λ i hi hs=>(Below.heap_setCell _ _ _ _ (λ e=>by
  subst e;rcases hp with hp|hp
  ·exact hs hp
  ·omega)).trans (h.block i hi hs)⟩
theorem Ze.setRow {S:List Nat} {a b:World} (h:Ze S a b) (g:Nat) (cs:Array Value) (hp:g∈S\/a.heap.size<=g):Ze S a (b.setRow g cs):=
 ⟨h.os,h.tape,h.output,Nat.le_trans h.size (by simp [World.setRow]),λ i hi hs=>(setRow_other b g i cs (λ e=>by
  subst e;rcases hp with hp|hp
  ·exact hs hp
  ·omega)).trans (h.block i hi hs)⟩
theorem Ze.below {w w':World} (h:Ze [] w w'):Below w.heap.size w w':=⟨h.os,h.tape,h.output,h.size,λ k hk=>h.block k hk (by simp)⟩
theorem Ze.at {S:List Nat} {w w':World} (h:Ze S w w') {k:Nat} {o:Obj} (hk:w.heap[k]? =some o) (hs:k∉S):w'.heap[k]? =some o:=
 (h.block k (lt_of_block hk) hs).trans hk
theorem Zc (w:World) (o:Obj):(w.alloc o).heap[w.heap.size]? =some o:=heap_alloc_new _ _
theorem Zf {w:World} (o:Obj) {k:Nat} {x:Obj} (h:w.heap[k]? =some x):(w.alloc o).heap[k]? =some x:=
 (Below.heap_alloc w o k (lt_of_block h)).trans h
theorem Zr {w:World} {b i:Nat} (v:Value) {k:Nat} {x:Obj} (h:w.heap[k]? =some x) (hk:k≠b):(w.setCell ⟨b,i,none⟩ v).heap[k]? =some x:=
 (Below.heap_setCell w ⟨b,i,none⟩ v k hk).trans h
theorem Zd {w:World} {b i:Nat} (v:Value) {c:Array Value} {t:TypeId} {f:Nat×Nat} (h:w.heap[b]? =some (.cells c t f)):
  (w.setCell ⟨b,i,none⟩ v).heap[b]? =some (.cells (c.setIfInBounds i v) t f):=by
 show (w.heap.modify b _)[b]? =_;rw [Array.getElem?_modify,if_pos rfl,h];rfl
theorem Za {w:World} {b i:Nat} {c:Array Value} {t:TypeId} {f:Nat×Nat} {v:Value} (h:w.heap[b]? =some (.cells c t f)) (hv:c[i]? =some v):w.cell? ⟨b,i,none⟩=some v:=by
 simp [World.cell?,h,hv]
theorem Zb {w:World} {b i:Nat} {c:Array Value} {t:TypeId} (h:w.heap[b]? =some (.cells c t (0,0))):w.frozen? ⟨b,i,none⟩=false:=by
 simp [World.frozen?,h]
structure Zh where
 ws:List Int
 op:Bool
 ct:Int
def H6 (l:List Int):Array Value:=(l.map (Value.int .u64)).toArray
structure Zi (t:TypeId) (w:World) (a b:Nat) (s:Zh):Prop where
 hd:w.heap[a]? =some (.cells #[.slice (some ⟨b,0,none⟩) s.ws.length s.ws.length,.bool s.op,.int .i64 s.ct] t (0,0))
 ws:w.heap[b]? =some (.cells (H6 s.ws) 54 (0,0))
 ne:a≠b
 len:s.ws.length<=4096
theorem Zi.mod {t:TypeId} {S:List Nat} {w w':World} {a b:Nat} {s:Zh} (h:Zi t w a b s) (hm:Ze S w w') (ha:a∉S) (hb:b∉S):Zi t w' a b s:=
 ⟨hm.at h.hd ha,hm.at h.ws hb,h.ne,h.len⟩
theorem Zi.lta {t:TypeId} {w:World} {a b:Nat} {s:Zh} (h:Zi t w a b s):a < w.heap.size:=lt_of_block h.hd
theorem Zi.ltb {t:TypeId} {w:World} {a b:Nat} {s:Zh} (h:Zi t w a b s):b < w.heap.size:=lt_of_block h.ws
theorem Zi.alloc {t:TypeId} {w:World} {a b:Nat} {s:Zh} (h:Zi t w a b s) (o:Obj):Zi t (w.alloc o) a b s:=
 ⟨Zf o h.hd,Zf o h.ws,h.ne,h.len⟩
theorem Zi.drew {t:TypeId} {w:World} {a b:Nat} {s:Zh} (h:Zi t w a b s):Zi t w.drew a b s:=⟨h.hd,h.ws,h.ne,h.len⟩
theorem Zi.other {t:TypeId} {w:World} {a b:Nat} {s:Zh} (h:Zi t w a b s) (c i:Nat) (v:Value) (ha:a≠c) (hb:b≠c):Zi t (w.setCell ⟨c,i,none⟩ v) a b s:=
 ⟨Zr v h.hd ha,Zr v h.ws hb,h.ne,h.len⟩
theorem u64s_get (l:List Int) (i:Nat) (h:i < l.length):(H6 l)[i]? =some (.int .u64 (l.getD i 0)):=by
 simp [H6,h]
theorem u64s_set (l:List Int) (i:Nat) (v:Int):(H6 l).setIfInBounds i (.int .u64 v)=H6 (l.set i v):=by
 simp [H6,List.map_set]
theorem Zi.cells {t:TypeId} {w:World} {a b:Nat} {s:Zh} (h:Zi t w a b s):
  w.cell? ⟨a,0,none⟩=some (.slice (some ⟨b,0,none⟩) s.ws.length s.ws.length)/\w.cell? ⟨a,1,none⟩=some (.bool s.op)/\w.cell? ⟨a,2,none⟩=some (.int .i64 s.ct)/\
  w.frozen? ⟨a,1,none⟩=false/\w.frozen? ⟨a,2,none⟩=false:=
 ⟨Za h.hd rfl,Za h.hd rfl,Za h.hd rfl,Zb h.hd,Zb h.hd⟩
theorem Zi.word {t:TypeId} {w:World} {a b:Nat} {s:Zh} (h:Zi t w a b s) {i:Nat} (hi:i < s.ws.length):
  w.cell? ⟨b,i,none⟩=some (.int .u64 (s.ws.getD i 0))/\w.frozen? ⟨b,i,none⟩=false:=
 ⟨Za h.ws (u64s_get _ _ hi),Zb h.ws⟩
def Zh.acc (s:Zh) (i:Int):Int:=if i < 0\/(s.ws.length:Int)<=i then 30 else if s.op then 0 else 31
def Zh.touch (s:Zh):Zh:={s with op:=false,ct:=wrap64 (s.ct+1)}
def Zh.at (s:Zh) (i:Int):Int:=s.ws.getD i.toNat 0
def Zh.got (s:Zh) (i:Int):Int:=if s.acc i=0 then s.at i else 0
def Zh.load (s:Zh) (i:Int):Zh:=if s.acc i=0 then s.touch else s
def Zh.put (s:Zh) (i v:Int):Zh:={s with ws:=s.ws.set i.toNat v}
def Zh.store (s:Zh) (i v:Int):Zh:=if s.acc i=0 then s.touch.put i v else s
def Zh.add (s:Zh) (i v:Int):Zh:=if s.acc i=0 then s.touch.put i (IntKind.u64.wrap (s.at i+v)) else s
def Zh.opened (s:Zh):Zh:={s with op:=true}
def Zh.bad (s:Zh) (i:Int):Int:=if i < 0\/(s.ws.length:Int)<=i then 30 else 0
def Zh.peek (s:Zh) (i:Int):Int:=if s.bad i=0 then s.at i else 0
def Zh.poke (s:Zh) (i v:Int):Zh:=if s.bad i=0 then s.put i v else s
theorem Zi.touch {t:TypeId} {w:World} {a b:Nat} {s:Zh} (h:Zi t w a b s):
  Zi t ((w.setCell ⟨a,1,none⟩ (.bool false)).setCell ⟨a,2,none⟩ (.int .i64 (wrap64 (s.ct+1)))) a b s.touch:=
 ⟨Zd _ (Zd _ h.hd),Zr _ (Zr _ h.ws h.ne.symm) h.ne.symm,h.ne,h.len⟩
theorem Zi.put {t:TypeId} {w:World} {a b:Nat} {s:Zh} (h:Zi t w a b s) (i:Nat) (v:Int):Zi t (w.setCell ⟨b,i,none⟩ (.int .u64 v)) a b (s.put i v):=by
 refine ⟨?_,?_,h.ne,?_⟩
 ·simpa [Zh.put] using Zr (.int .u64 v) h.hd h.ne
 ·have:=Zd (i:=i) (.int .u64 v) h.ws;rw [u64s_set] at this;exact this
 ·simpa [Zh.put] using h.len
theorem Zi.opened {t:TypeId} {w:World} {a b:Nat} {s:Zh} (h:Zi t w a b s):Zi t (w.setCell ⟨a,1,none⟩ (.bool true)) a b s.opened:=
 ⟨Zd _ h.hd,Zr _ h.ws h.ne.symm,h.ne,h.len⟩
theorem Ze.set_l {x y:World} {a b:Nat} (h:Ze [a,b] x y) (i:Nat) (v:Value):Ze [a,b] x (y.setCell ⟨a,i,none⟩ v):=h.setCell _ _ (.inl (by simp))
theorem Ze.set_r {x y:World} {a b:Nat} (h:Ze [a,b] x y) (i:Nat) (v:Value):Ze [a,b] x (y.setCell ⟨b,i,none⟩ v):=h.setCell _ _ (.inl (by simp))
theorem Ze.set_new {x y:World} {S:List Nat} (h:Ze S x y) (c i:Nat) (v:Value) (hc:x.heap.size<=c):Ze S x (y.setCell ⟨c,i,none⟩ v):=h.setCell _ _ (.inr hc)
theorem Ze.weak {x y:World} (S:List Nat) (h:Ze [] x y):Ze S x y:=h.mono (by simp)
theorem Ze.then {x y z:World} {S R:List Nat} (h:Ze S x y) (k:Ze R y z) (hs:∀ n∈R,n∈S\/x.heap.size<=n):Ze S x z:=
 ⟨k.os.trans h.os,k.tape.trans h.tape,k.output.trans h.output,Nat.le_trans h.size k.size,
  λ i hi hn=>(k.block i (Nat.lt_of_lt_of_le hi h.size) (λ hr=>(hs i hr).elim hn (λ h'=>by omega))).trans (h.block i hi hn)⟩
def Zh.fresh (n:Nat):Zh:={ws:=List.replicate n 0,op:=false,ct:=0}
theorem info28:(Tryz.prog.info? 54).map (λ i=>(i.zero,i.size,i.bytes))=some (some (.int .u64 0),1,8):=by kernel_rfl
theorem Dd (v:Value) (n:Nat):madeCells #[v] n=(List.replicate n v).toArray:=by
 apply Array.ext
 ·simp [size_madeCells]
 ·intro i h1 h2;simp [madeCells,Nat.mod_one]
theorem S1 (n:Nat):(List.replicate n (Value.int .u64 0)).toArray=H6 (List.replicate n 0):=by
 simp [H6]
theorem make_u64 (n:Nat) (hn:n<=4096) (w:World):
  (Instr.makeSlice 135 (.int .i64 n) (.int .i64 n)).run Tryz.prog w=.ok (.slice (some ⟨w.heap.size,0,none⟩) n n) (w.alloc (.cells (H6 (List.replicate n 0)) 54)):=by
 obtain ⟨i0,hi,hz0,hz1,hz2⟩:=info_parts info28;have h:=run_make (P:=Tryz.prog) w 135 54 i0 (.int .u64 0) underlying135 hi hz0 .i64 .i64 n n (by omega) (by omega) (by rw [hz2];omega) (by omega);rw [hz1] at h;simpa only [Value.cells,Dd,S1,Int.toNat_natCast,Nat.mul_one] using h
theorem Zi.mk_fresh (w:World) (n:Nat) (hn:n<=4096) (t:TypeId):
  Zi t ((w.alloc (.cells (H6 (List.replicate n 0)) 54)).alloc (.cells #[.slice (some ⟨w.heap.size,0,none⟩) n n,.bool false,.int .i64 0] t)) (w.heap.size+1) w.heap.size (.fresh n):=by
 refine ⟨?_,?_,by omega,by simpa [Zh.fresh] using hn⟩
 ·have h:=heap_alloc_new (w.alloc (.cells (H6 (List.replicate n 0)) 54)) (.cells #[.slice (some ⟨w.heap.size,0,none⟩) n n,.bool false,.int .i64 0] t);rw [World.size_alloc] at h;simpa [Zh.fresh] using h
 ·exact Zf _ (heap_alloc_new _ _)
theorem Tv_ {a:Act} {t:Tmp} {v:Value} (h:a.eval (.tmp t)=v):a.tmps[t]?.getD undef=v:=by simpa [Act.eval] using h
theorem Zc7e_ {w:World} {k:Nat} {a0 a1 a2 a3 a4 a5 a6 a7 a8 a9 a10:Value} {t:TypeId} {f:Nat×Nat} (h:w.heap[k]? =some (.cells #[a0,a1,a2,a3,a4,a5,a6,a7,a8,a9,a10] t f)):w.cell? ⟨k,0,none⟩=some a0∧w.cell? ⟨k,1,none⟩=some a1∧w.cell? ⟨k,2,none⟩=some a2∧w.cell? ⟨k,3,none⟩=some a3∧w.cell? ⟨k,4,none⟩=some a4∧w.cell? ⟨k,5,none⟩=some a5∧w.cell? ⟨k,6,none⟩=some a6:=⟨Za h rfl,Za h rfl,Za h rfl,Za h rfl,Za h rfl,Za h rfl,Za h rfl⟩
theorem Zc7g_ {w:World} {k:Nat} {a0 a1 a2 a3 a4 a5 a6 a7 a8 a9 a10 a11 a12:Value} {t:TypeId} {f:Nat×Nat} (h:w.heap[k]? =some (.cells #[a0,a1,a2,a3,a4,a5,a6,a7,a8,a9,a10,a11,a12] t f)):w.cell? ⟨k,0,none⟩=some a0∧w.cell? ⟨k,1,none⟩=some a1∧w.cell? ⟨k,2,none⟩=some a2∧w.cell? ⟨k,3,none⟩=some a3∧w.cell? ⟨k,4,none⟩=some a4∧w.cell? ⟨k,5,none⟩=some a5∧w.cell? ⟨k,6,none⟩=some a6:=⟨Za h rfl,Za h rfl,Za h rfl,Za h rfl,Za h rfl,Za h rfl,Za h rfl⟩
theorem Zc10a_ {w:World} {k:Nat} {a0 a1 a2 a3 a4 a5 a6 a7 a8 a9:Value} {t:TypeId} {f:Nat×Nat} (h:w.heap[k]? =some (.cells #[a0,a1,a2,a3,a4,a5,a6,a7,a8,a9] t f)):w.cell? ⟨k,0,none⟩=some a0∧w.cell? ⟨k,1,none⟩=some a1∧w.cell? ⟨k,2,none⟩=some a2∧w.cell? ⟨k,3,none⟩=some a3∧w.cell? ⟨k,4,none⟩=some a4∧w.cell? ⟨k,5,none⟩=some a5∧w.cell? ⟨k,6,none⟩=some a6∧w.cell? ⟨k,7,none⟩=some a7∧w.cell? ⟨k,8,none⟩=some a8∧w.cell? ⟨k,9,none⟩=some a9:=⟨Za h rfl,Za h rfl,Za h rfl,Za h rfl,Za h rfl,Za h rfl,Za h rfl,Za h rfl,Za h rfl,Za h rfl⟩
end
section
theorem Zi.drewN {t:TypeId} {w:World} {a b:Nat} {s:Zh} (h:Zi t w a b s) (n:Nat):Zi t (w.drewN n) a b s:=⟨h.hd,h.ws,h.ne,h.len⟩
theorem Ze.drewN {S:List Nat} {a b:World} (h:Ze S a b) (n:Nat):Ze S a (b.drewN n):=⟨h.os,h.tape,h.output,h.size,h.block⟩
end
section
def W6 (a b:Nat->Bool):Bool:=if a 0=b 0 then if a 1=b 1 then if a 2=b 2 then if a 3=b 3 then if a 4=b 4 then if a 5=b 5 then if a 6=b 6 then if a 7=b 7 then true else false else false else false else false else false else false else false else false
theorem Mp (w:World):(sizeOf 4).run Tryz.prog w=.ok 1 w:=by kernel_rfl
theorem eq1 (d:Nat) (a b:Bool) (w:World):(Op.equalIn (d+1) 4 (.bool a) (.bool b)).run Tryz.prog w=.ok (a==b) w:=by
 simp [Op.equalIn,run_underlying underlying4]
theorem part4 (xs:Array Value) (i:Nat) (v:Value) (h:xs[i]? =some v) (w:World):(part 4 xs i).run Tryz.prog w=.ok v w:=by
 have hu:=λ w=>run_underlying (P:=Tryz.prog) (w:=w) underlying4;unfold part isAgg;simp [hu,h]
theorem eqArr (d:Nat) (a b:Nat->Bool) (w:World):(Op.equalIn (d+2) 121 (.agg #[.bool (a 0),.bool (a 1),.bool (a 2),.bool (a 3),.bool (a 4),.bool (a 5),.bool (a 6),.bool (a 7)]) (.agg #[.bool (b 0),.bool (b 1),.bool (b 2),.bool (b 3),.bool (b 4),.bool (b 5),.bool (b 6),.bool (b 7)])).run Tryz.prog w=.ok (W6 a b) w:=by
 rw [show d+2=(d+1)+1 from rfl,Op.equalIn.eq_def];simp only [Sem.run_bind,run_underlying underlying121,Result.andThen_ok,Mp];simp [Std.Legacy.Range.forIn_eq_forIn_range',List.range',part4,eq1];unfold W6;split
 ·split
  ·split
   ·split
    ·split
     ·split
      ·split
       ·split <;> rfl
       ·rfl
      ·rfl
     ·rfl
    ·rfl
   ·rfl
  ·rfl
 ·rfl
theorem run_eql8 (a b:Nat->Bool) (w:World):(binOp .eql 121 (.agg #[.bool (a 0),.bool (a 1),.bool (a 2),.bool (a 3),.bool (a 4),.bool (a 5),.bool (a 6),.bool (a 7)]) (.agg #[.bool (b 0),.bool (b 1),.bool (b 2),.bool (b 3),.bool (b 4),.bool (b 5),.bool (b 6),.bool (b 7)])).run Tryz.prog w=.ok (.bool (W6 a b)) w:=by
 simp only [binOp];simp [Op.equal,Op.maxDepth,eqArr 9998 a b]
theorem run_neq8 (a b:Nat->Bool) (w:World):(binOp .neq 121 (.agg #[.bool (a 0),.bool (a 1),.bool (a 2),.bool (a 3),.bool (a 4),.bool (a 5),.bool (a 6),.bool (a 7)]) (.agg #[.bool (b 0),.bool (b 1),.bool (b 2),.bool (b 3),.bool (b 4),.bool (b 5),.bool (b 6),.bool (b 7)])).run Tryz.prog w=.ok (.bool (!W6 a b)) w:=by
 simp only [binOp];simp [Op.equal,Op.maxDepth,eqArr 9998 a b]
def Bx (f:Nat->Bool) (n o:Int):Array Value:=#[.bool (f 0),.bool (f 1),.bool (f 2),.bool (f 3),.bool (f 4),.bool (f 5),.bool (f 6),.bool (f 7),.bool (f 8),.bool (f 9),.bool (f 10),.bool (f 11),.bool (f 12),.bool (f 13),.bool (f 14),.bool (f 15),.int .i64 n,.int .i64 o]
def Xx (w:World) (r:Nat) (n:Int):Prop:=∃ f o,w.heap[r]? =some (.cells (Bx f n o) 123 (0,0))
variable {w w':World} {r:Nat} {n:Int}
theorem Xx.mod {S:List Nat} (h:Xx w r n) (m:Ze S w w') (hr:r∉S):Xx w' r n:=by
 obtain ⟨f,o,h⟩:=h;exact ⟨f,o,m.at h hr⟩
def updB (f:Nat->Bool) (k:Nat) (b:Bool):Nat->Bool:=λ i=>if i=k then b else f i
theorem Cu (f:Nat->Bool) (n o:Int) (i:Nat) (hi:i < 16) (b:Bool):(Bx f n o).setIfInBounds i (.bool b)=Bx (updB f i b) n o:=by
 match i,hi with
 |0,_=>rfl
 |1,_=>rfl
 |2,_=>rfl
 |3,_=>rfl
 |4,_=>rfl
 |5,_=>rfl
 |6,_=>rfl
 |7,_=>rfl
 |8,_=>rfl
 |9,_=>rfl
 |10,_=>rfl
 |11,_=>rfl
 |12,_=>rfl
 |13,_=>rfl
 |14,_=>rfl
 |15,_=>rfl
 |k+16,h=>omega
theorem Xx.setB (h:Xx w r n) (i:Nat) (hi:i < 16) (b:Bool):Xx (w.setCell ⟨r,i,none⟩ (.bool b)) r n:=by
 obtain ⟨f,o,h⟩:=h;exact ⟨updB f i b,o,by rw [<-Cu f n o i hi b];exact Zd _ h⟩
theorem Xx.setO (h:Xx w r n) (o':Int):Xx (w.setCell ⟨r,17,none⟩ (.int .i64 o')) r n:=by
 obtain ⟨f,o,h⟩:=h;exact ⟨f,o',by rw [show Bx f n o'=(Bx f n o).setIfInBounds 17 (.int .i64 o') from rfl];exact Zd _ h⟩
theorem Xx.lt (h:Xx w r n):r < w.heap.size:=by obtain ⟨f,o,h⟩:=h;exact lt_of_block h
def Rnd (w:World) (r:Nat) (n:Int) (v:Value) (e:Ending) (w':World):Prop:=e=.returned v/\Xx w' r n/\Ze [r] w w'
theorem Xd (h:Xx w r n):Calls Tryz.prog 64 #[.pointer (some ⟨r,0,none⟩)] w (Rnd w r n (.tuple #[])):=by
 obtain ⟨f,o,h⟩:=h;have hlt:=lt_of_block h;have c0:w.cell? ⟨r,0,none⟩=some (.bool (f 0)):=Za h rfl;have c1:w.cell? ⟨r,1,none⟩=some (.bool (f 1)):=Za h rfl;have c2:w.cell? ⟨r,2,none⟩=some (.bool (f 2)):=Za h rfl;have c3:w.cell? ⟨r,3,none⟩=some (.bool (f 3)):=Za h rfl;have c4:w.cell? ⟨r,4,none⟩=some (.bool (f 4)):=Za h rfl;have c5:w.cell? ⟨r,5,none⟩=some (.bool (f 5)):=Za h rfl;have c6:w.cell? ⟨r,6,none⟩=some (.bool (f 6)):=Za h rfl;have c7:w.cell? ⟨r,7,none⟩=some (.bool (f 7)):=Za h rfl;have c8:w.cell? ⟨r,8,none⟩=some (.bool (f 8)):=Za h rfl;have c9:w.cell? ⟨r,9,none⟩=some (.bool (f 9)):=Za h rfl;have c10:w.cell? ⟨r,10,none⟩=some (.bool (f 10)):=Za h rfl;have c11:w.cell? ⟨r,11,none⟩=some (.bool (f 11)):=Za h rfl;have c12:w.cell? ⟨r,12,none⟩=some (.bool (f 12)):=Za h rfl;have c13:w.cell? ⟨r,13,none⟩=some (.bool (f 13)):=Za h rfl;have c14:w.cell? ⟨r,14,none⟩=some (.bool (f 14)):=Za h rfl;have c15:w.cell? ⟨r,15,none⟩=some (.bool (f 15)):=Za h rfl;have c17:w.cell? ⟨r,17,none⟩=some (.int .i64 o):=Za h rfl;have f8:w.frozen? ⟨r,8,none⟩=false:=Zb h;have f9:w.frozen? ⟨r,9,none⟩=false:=Zb h;have f10:w.frozen? ⟨r,10,none⟩=false:=Zb h;have f11:w.frozen? ⟨r,11,none⟩=false:=Zb h;have f12:w.frozen? ⟨r,12,none⟩=false:=Zb h;have f13:w.frozen? ⟨r,13,none⟩=false:=Zb h;have f14:w.frozen? ⟨r,14,none⟩=false:=Zb h;have f15:w.frozen? ⟨r,15,none⟩=false:=Zb h;have f17:w.frozen? ⟨r,17,none⟩=false:=Zb h;have H:=Zh_ h;clear h;have q1:=λ w=>run_eql8 (λ i=>f (8+i)) f w;have q2:=λ w=>run_neq8 f (λ _=>false) w;simp only [Nat.add_zero,Nat.reduceAdd] at q1 q2;obtain ⟨z1,hz1⟩:∃ z,z=W6 (λ i=>f (8+i)) f:=⟨_,rfl⟩;obtain ⟨z2,hz2⟩:∃ z,z=W6 f (λ _=>false):=⟨_,rfl⟩;rw [<-hz1] at q1;rw [<-hz2] at q2;clear hz1 hz2;cases z1 <;> cases z2
 all_goals
  go_enter func64,ntmps64;go_wp2;refine wp_region_quiet_lit (by kernel_rfl) (by kernel_rfl) ?_
  repeat (any_goals (first|go_big_quiet_step (fail)|quiet_step (fail)|(refine wpQuiet_step (λ K hK=>?_);go_simp;split <;> (refine hK _ ?_;clear hK K))))
  all_goals (refine wpQuiet_nil ?_;intro _ hw';obtain ⟨nq,hw''⟩:=hw';subst hw'')
  clear q1 q2;go_wp2;go_end0
 ·exact ⟨rfl,⟨f,o,H.out⟩,(Zr_ _ _).drewN nq⟩
 ·exact ⟨rfl,⟨f,o,H.out⟩,(Zr_ _ _).drewN nq⟩
 ·have hin:r∈[r]\/w.heap.size<=r:=.inl (by simp);have HR:Xx w r n:=⟨f,o,H.out⟩;exact ⟨rfl,(((((((((HR.mod ((Zr_ [] _).drewN nq) (by simp)).setB 8 (by decide) false).setB 9 (by decide) false).setB 10 (by decide) false).setB 11 (by decide) false).setB 12 (by decide) false).setB 13 (by decide) false).setB 14 (by decide) false).setB 15 (by decide) false).setO _,(((((((((((Zr_ _ _).drewN nq).setCell _ _ hin).setCell _ _ hin).setCell _ _ hin).setCell _ _ hin).setCell _ _ hin).setCell _ _ hin).setCell _ _ hin).setCell _ _ hin).setCell _ _ hin)⟩
 ·exact ⟨rfl,⟨f,o,H.out⟩,(Zr_ _ _).drewN nq⟩
end
section
variable {w w':World} {r:Nat} {n:Int}
theorem Aj (h:Xx w r n) (t:Int) (h0:0<=t) (h1:t < n) (h8:n<=8):Calls Tryz.prog 47 #[.pointer (some ⟨r,0,none⟩),.int .i64 t] w (Rnd w r n (.int .i64 0)):=by
 have HR:=Zh_ h;have hlt:=h.lt;obtain ⟨f,o,h⟩:=h;have c16:w.cell? ⟨r,16,none⟩=some (.int .i64 n):=Za h rfl;have d1:decide (t < 0)=false:=decide_eq_false (by omega);have d2:decide (n<=t)=false:=decide_eq_false (by omega);have hh:t=0\/t=1\/t=2\/t=3\/t=4\/t=5\/t=6\/t=7:=by omega
 clear h0 h1 h8;rcases hh with rfl|rfl|rfl|rfl|rfl|rfl|rfl|rfl
 ·have a:w.cell? ⟨r,0,none⟩=some (.bool (f 0)):=Za h rfl;have b:w.cell? ⟨r,8,none⟩=some (.bool (f 8)):=Za h rfl;have c:w.frozen? ⟨r,8,none⟩=false:=Zb h;clear h;obtain ⟨z,hz⟩:∃ z,z=f 0:=⟨_,rfl⟩;rw [<-hz] at a;clear hz;cases z
  ·go_enter func47,ntmps47;go_wp2;go_ret;exact ⟨rfl,HR.out,Zr_ _ _⟩
  ·go_enter func47,ntmps47;go_wp2_with fail;refine (Xd (HR.out.setB 8 (by decide) true)).mono ?_;rintro e w1 ⟨rfl,h1,m1⟩;go_wp2;go_ret;exact ⟨rfl,h1,((Zr_ _ _).setCell _ _ (.inl (by simp))).trans m1⟩
 ·have a:w.cell? ⟨r,1,none⟩=some (.bool (f 1)):=Za h rfl;have b:w.cell? ⟨r,9,none⟩=some (.bool (f 9)):=Za h rfl;have c:w.frozen? ⟨r,9,none⟩=false:=Zb h;clear h;obtain ⟨z,hz⟩:∃ z,z=f 1:=⟨_,rfl⟩;rw [<-hz] at a;clear hz;cases z
  ·go_enter func47,ntmps47;go_wp2;go_ret;exact ⟨rfl,HR.out,Zr_ _ _⟩
  ·go_enter func47,ntmps47;go_wp2_with fail;refine (Xd (HR.out.setB 9 (by decide) true)).mono ?_;rintro e w1 ⟨rfl,h1,m1⟩;go_wp2;go_ret;exact ⟨rfl,h1,((Zr_ _ _).setCell _ _ (.inl (by simp))).trans m1⟩
 ·have a:w.cell? ⟨r,2,none⟩=some (.bool (f 2)):=Za h rfl;have b:w.cell? ⟨r,10,none⟩=some (.bool (f 10)):=Za h rfl;have c:w.frozen? ⟨r,10,none⟩=false:=Zb h;clear h;obtain ⟨z,hz⟩:∃ z,z=f 2:=⟨_,rfl⟩;rw [<-hz] at a;clear hz;cases z
  ·go_enter func47,ntmps47;go_wp2;go_ret;exact ⟨rfl,HR.out,Zr_ _ _⟩
  ·go_enter func47,ntmps47;go_wp2_with fail;refine (Xd (HR.out.setB 10 (by decide) true)).mono ?_;rintro e w1 ⟨rfl,h1,m1⟩;go_wp2;go_ret;exact ⟨rfl,h1,((Zr_ _ _).setCell _ _ (.inl (by simp))).trans m1⟩
 ·have a:w.cell? ⟨r,3,none⟩=some (.bool (f 3)):=Za h rfl;have b:w.cell? ⟨r,11,none⟩=some (.bool (f 11)):=Za h rfl;have c:w.frozen? ⟨r,11,none⟩=false:=Zb h;clear h;obtain ⟨z,hz⟩:∃ z,z=f 3:=⟨_,rfl⟩;rw [<-hz] at a;clear hz;cases z
  ·go_enter func47,ntmps47;go_wp2;go_ret;exact ⟨rfl,HR.out,Zr_ _ _⟩
  ·go_enter func47,ntmps47;go_wp2_with fail;refine (Xd (HR.out.setB 11 (by decide) true)).mono ?_;rintro e w1 ⟨rfl,h1,m1⟩;go_wp2;go_ret;exact ⟨rfl,h1,((Zr_ _ _).setCell _ _ (.inl (by simp))).trans m1⟩
 ·have a:w.cell? ⟨r,4,none⟩=some (.bool (f 4)):=Za h rfl;have b:w.cell? ⟨r,12,none⟩=some (.bool (f 12)):=Za h rfl;have c:w.frozen? ⟨r,12,none⟩=false:=Zb h;clear h;obtain ⟨z,hz⟩:∃ z,z=f 4:=⟨_,rfl⟩;rw [<-hz] at a;clear hz;cases z
  ·go_enter func47,ntmps47;go_wp2;go_ret;exact ⟨rfl,HR.out,Zr_ _ _⟩
  ·go_enter func47,ntmps47;go_wp2_with fail;refine (Xd (HR.out.setB 12 (by decide) true)).mono ?_;rintro e w1 ⟨rfl,h1,m1⟩;go_wp2;go_ret;exact ⟨rfl,h1,((Zr_ _ _).setCell _ _ (.inl (by simp))).trans m1⟩
 ·have a:w.cell? ⟨r,5,none⟩=some (.bool (f 5)):=Za h rfl;have b:w.cell? ⟨r,13,none⟩=some (.bool (f 13)):=Za h rfl;have c:w.frozen? ⟨r,13,none⟩=false:=Zb h;clear h;obtain ⟨z,hz⟩:∃ z,z=f 5:=⟨_,rfl⟩;rw [<-hz] at a;clear hz;cases z
  ·go_enter func47,ntmps47;go_wp2;go_ret;exact ⟨rfl,HR.out,Zr_ _ _⟩
  ·go_enter func47,ntmps47;go_wp2_with fail;refine (Xd (HR.out.setB 13 (by decide) true)).mono ?_;rintro e w1 ⟨rfl,h1,m1⟩;go_wp2;go_ret;exact ⟨rfl,h1,((Zr_ _ _).setCell _ _ (.inl (by simp))).trans m1⟩
 ·have a:w.cell? ⟨r,6,none⟩=some (.bool (f 6)):=Za h rfl;have b:w.cell? ⟨r,14,none⟩=some (.bool (f 14)):=Za h rfl;have c:w.frozen? ⟨r,14,none⟩=false:=Zb h;clear h;obtain ⟨z,hz⟩:∃ z,z=f 6:=⟨_,rfl⟩;rw [<-hz] at a;clear hz;cases z
  ·go_enter func47,ntmps47;go_wp2;go_ret;exact ⟨rfl,HR.out,Zr_ _ _⟩
  ·go_enter func47,ntmps47;go_wp2_with fail;refine (Xd (HR.out.setB 14 (by decide) true)).mono ?_;rintro e w1 ⟨rfl,h1,m1⟩;go_wp2;go_ret;exact ⟨rfl,h1,((Zr_ _ _).setCell _ _ (.inl (by simp))).trans m1⟩
 ·have a:w.cell? ⟨r,7,none⟩=some (.bool (f 7)):=Za h rfl;have b:w.cell? ⟨r,15,none⟩=some (.bool (f 15)):=Za h rfl;have c:w.frozen? ⟨r,15,none⟩=false:=Zb h;clear h;obtain ⟨z,hz⟩:∃ z,z=f 7:=⟨_,rfl⟩;rw [<-hz] at a;clear hz;cases z
  ·go_enter func47,ntmps47;go_wp2;go_ret;exact ⟨rfl,HR.out,Zr_ _ _⟩
  ·go_enter func47,ntmps47;go_wp2_with fail;refine (Xd (HR.out.setB 15 (by decide) true)).mono ?_;rintro e w1 ⟨rfl,h1,m1⟩;go_wp2;go_ret;exact ⟨rfl,h1,((Zr_ _ _).setCell _ _ (.inl (by simp))).trans m1⟩
theorem Pd (h:Xx w r n) (t:Int) (h0:0<=t) (h1:t < n) (h8:n<=8):Calls Tryz.prog 44 #[.pointer (some ⟨r,0,none⟩),.int .i64 t] w (Rnd w r n (.int .i64 0)):=by
 have HR:=Zh_ h;have hlt:=h.lt;obtain ⟨f,o,h⟩:=h;have c16:w.cell? ⟨r,16,none⟩=some (.int .i64 n):=Za h rfl;have d1:decide (t < 0)=false:=decide_eq_false (by omega);have d2:decide (n<=t)=false:=decide_eq_false (by omega);have hh:t=0\/t=1\/t=2\/t=3\/t=4\/t=5\/t=6\/t=7:=by omega
 clear h0 h1 h8;rcases hh with rfl|rfl|rfl|rfl|rfl|rfl|rfl|rfl
 ·have a:w.cell? ⟨r,0,none⟩=some (.bool (f 0)):=Za h rfl;have b:w.cell? ⟨r,8,none⟩=some (.bool (f 8)):=Za h rfl;have c:w.frozen? ⟨r,8,none⟩=false:=Zb h;have c':w.frozen? ⟨r,0,none⟩=false:=Zb h;clear h;obtain ⟨z,hz⟩:∃ z,z=f 0:=⟨_,rfl⟩;rw [<-hz] at a;clear hz;cases z
  ·go_enter func44,ntmps44;go_wp2;go_ret;exact ⟨rfl,HR.out,Zr_ _ _⟩
  ·go_enter func44,ntmps44;go_wp2_with fail;refine (Xd ((HR.out.setB 0 (by decide) false).setB 8 (by decide) false)).mono ?_;rintro e w1 ⟨rfl,h1,m1⟩;go_wp2;go_ret;exact ⟨rfl,h1,(((Zr_ _ _).setCell _ _ (.inl (by simp))).setCell _ _ (.inl (by simp))).trans m1⟩
 ·have a:w.cell? ⟨r,1,none⟩=some (.bool (f 1)):=Za h rfl;have b:w.cell? ⟨r,9,none⟩=some (.bool (f 9)):=Za h rfl;have c:w.frozen? ⟨r,9,none⟩=false:=Zb h;have c':w.frozen? ⟨r,1,none⟩=false:=Zb h;clear h;obtain ⟨z,hz⟩:∃ z,z=f 1:=⟨_,rfl⟩;rw [<-hz] at a;clear hz;cases z
  ·go_enter func44,ntmps44;go_wp2;go_ret;exact ⟨rfl,HR.out,Zr_ _ _⟩
  ·go_enter func44,ntmps44;go_wp2_with fail;refine (Xd ((HR.out.setB 1 (by decide) false).setB 9 (by decide) false)).mono ?_;rintro e w1 ⟨rfl,h1,m1⟩;go_wp2;go_ret;exact ⟨rfl,h1,(((Zr_ _ _).setCell _ _ (.inl (by simp))).setCell _ _ (.inl (by simp))).trans m1⟩
 ·have a:w.cell? ⟨r,2,none⟩=some (.bool (f 2)):=Za h rfl;have b:w.cell? ⟨r,10,none⟩=some (.bool (f 10)):=Za h rfl;have c:w.frozen? ⟨r,10,none⟩=false:=Zb h;have c':w.frozen? ⟨r,2,none⟩=false:=Zb h;clear h;obtain ⟨z,hz⟩:∃ z,z=f 2:=⟨_,rfl⟩;rw [<-hz] at a;clear hz;cases z
  ·go_enter func44,ntmps44;go_wp2;go_ret;exact ⟨rfl,HR.out,Zr_ _ _⟩
  ·go_enter func44,ntmps44;go_wp2_with fail;refine (Xd ((HR.out.setB 2 (by decide) false).setB 10 (by decide) false)).mono ?_;rintro e w1 ⟨rfl,h1,m1⟩;go_wp2;go_ret;exact ⟨rfl,h1,(((Zr_ _ _).setCell _ _ (.inl (by simp))).setCell _ _ (.inl (by simp))).trans m1⟩
 ·have a:w.cell? ⟨r,3,none⟩=some (.bool (f 3)):=Za h rfl;have b:w.cell? ⟨r,11,none⟩=some (.bool (f 11)):=Za h rfl;have c:w.frozen? ⟨r,11,none⟩=false:=Zb h;have c':w.frozen? ⟨r,3,none⟩=false:=Zb h;clear h;obtain ⟨z,hz⟩:∃ z,z=f 3:=⟨_,rfl⟩;rw [<-hz] at a;clear hz;cases z
  ·go_enter func44,ntmps44;go_wp2;go_ret;exact ⟨rfl,HR.out,Zr_ _ _⟩
  ·go_enter func44,ntmps44;go_wp2_with fail;refine (Xd ((HR.out.setB 3 (by decide) false).setB 11 (by decide) false)).mono ?_;rintro e w1 ⟨rfl,h1,m1⟩;go_wp2;go_ret;exact ⟨rfl,h1,(((Zr_ _ _).setCell _ _ (.inl (by simp))).setCell _ _ (.inl (by simp))).trans m1⟩
 ·have a:w.cell? ⟨r,4,none⟩=some (.bool (f 4)):=Za h rfl;have b:w.cell? ⟨r,12,none⟩=some (.bool (f 12)):=Za h rfl;have c:w.frozen? ⟨r,12,none⟩=false:=Zb h;have c':w.frozen? ⟨r,4,none⟩=false:=Zb h;clear h;obtain ⟨z,hz⟩:∃ z,z=f 4:=⟨_,rfl⟩;rw [<-hz] at a;clear hz;cases z
  ·go_enter func44,ntmps44;go_wp2;go_ret;exact ⟨rfl,HR.out,Zr_ _ _⟩
  ·go_enter func44,ntmps44;go_wp2_with fail;refine (Xd ((HR.out.setB 4 (by decide) false).setB 12 (by decide) false)).mono ?_;rintro e w1 ⟨rfl,h1,m1⟩;go_wp2;go_ret;exact ⟨rfl,h1,(((Zr_ _ _).setCell _ _ (.inl (by simp))).setCell _ _ (.inl (by simp))).trans m1⟩
 ·have a:w.cell? ⟨r,5,none⟩=some (.bool (f 5)):=Za h rfl;have b:w.cell? ⟨r,13,none⟩=some (.bool (f 13)):=Za h rfl;have c:w.frozen? ⟨r,13,none⟩=false:=Zb h;have c':w.frozen? ⟨r,5,none⟩=false:=Zb h;clear h;obtain ⟨z,hz⟩:∃ z,z=f 5:=⟨_,rfl⟩;rw [<-hz] at a;clear hz;cases z
  ·go_enter func44,ntmps44;go_wp2;go_ret;exact ⟨rfl,HR.out,Zr_ _ _⟩
  ·go_enter func44,ntmps44;go_wp2_with fail;refine (Xd ((HR.out.setB 5 (by decide) false).setB 13 (by decide) false)).mono ?_;rintro e w1 ⟨rfl,h1,m1⟩;go_wp2;go_ret;exact ⟨rfl,h1,(((Zr_ _ _).setCell _ _ (.inl (by simp))).setCell _ _ (.inl (by simp))).trans m1⟩
 ·have a:w.cell? ⟨r,6,none⟩=some (.bool (f 6)):=Za h rfl;have b:w.cell? ⟨r,14,none⟩=some (.bool (f 14)):=Za h rfl;have c:w.frozen? ⟨r,14,none⟩=false:=Zb h;have c':w.frozen? ⟨r,6,none⟩=false:=Zb h;clear h;obtain ⟨z,hz⟩:∃ z,z=f 6:=⟨_,rfl⟩;rw [<-hz] at a;clear hz;cases z
  ·go_enter func44,ntmps44;go_wp2;go_ret;exact ⟨rfl,HR.out,Zr_ _ _⟩
  ·go_enter func44,ntmps44;go_wp2_with fail;refine (Xd ((HR.out.setB 6 (by decide) false).setB 14 (by decide) false)).mono ?_;rintro e w1 ⟨rfl,h1,m1⟩;go_wp2;go_ret;exact ⟨rfl,h1,(((Zr_ _ _).setCell _ _ (.inl (by simp))).setCell _ _ (.inl (by simp))).trans m1⟩
 ·have a:w.cell? ⟨r,7,none⟩=some (.bool (f 7)):=Za h rfl;have b:w.cell? ⟨r,15,none⟩=some (.bool (f 15)):=Za h rfl;have c:w.frozen? ⟨r,15,none⟩=false:=Zb h;have c':w.frozen? ⟨r,7,none⟩=false:=Zb h;clear h;obtain ⟨z,hz⟩:∃ z,z=f 7:=⟨_,rfl⟩;rw [<-hz] at a;clear hz;cases z
  ·go_enter func44,ntmps44;go_wp2;go_ret;exact ⟨rfl,HR.out,Zr_ _ _⟩
  ·go_enter func44,ntmps44;go_wp2_with fail;refine (Xd ((HR.out.setB 7 (by decide) false).setB 15 (by decide) false)).mono ?_;rintro e w1 ⟨rfl,h1,m1⟩;go_wp2;go_ret;exact ⟨rfl,h1,(((Zr_ _ _).setCell _ _ (.inl (by simp))).setCell _ _ (.inl (by simp))).trans m1⟩
end
section
variable {w w':World} {r:Nat} {n:Int}
def RndNew (w:World) (n:Int) (e:Ending) (w':World):Prop:=∃ r,e=.returned (.tuple #[.pointer (some ⟨r,0,none⟩),.int .i64 0])/\Xx w' r n/\w.heap.size<=r/\Ze [] w w'
theorem Xx.loopNew {w1:World} {r i:Nat} (h:Xx w1 r n) (m:Ze [] w w1) (hr:w.heap.size<=r) (hi:i < 16) (b:Bool):Xx (w1.setCell ⟨r,i,none⟩ (.bool b)) r n/\Ze [] w (w1.setCell ⟨r,i,none⟩ (.bool b)):=
 ⟨h.setB i hi b,m.setCell _ _ (.inr hr)⟩
theorem rndnew_c (h0:1<=n) (h8:n<=8):Calls Tryz.prog 42 #[.int .i64 n] w (RndNew w n):=by
 have d1:decide (n < 1)=false:=decide_eq_false (by omega);have d2:decide (8 < n)=false:=decide_eq_false (by omega);go_enter func42,ntmps42;go_wp2_with fail
 go_loopw [16] (λ i wr=>∃ k:Nat,(k:Int)<=n/\i=.int .i64 k/\Xx wr w.heap.size n/\Ze [] w wr) (λ i _=>n.toNat - (intOf i).toNat)
 case atStart=>exact ⟨0,by omega,rfl,⟨λ _=>false,0,Zc _ _⟩,(Zr_ _ _).alloc _⟩
 case round=>
  obtain ⟨k,hk,rfl,hR,m⟩:=hrel
  by_cases hlt:(k:Int) < n
  ·obtain ⟨f,o,hb⟩:=hR;have hlt8:k < 8:=by omega
   have c:wr.cell? ⟨w.heap.size,k,none⟩=some (.bool (f k)):=Za hb (by
    have:k=0\/k=1\/k=2\/k=3\/k=4\/k=5\/k=6\/k=7:=by omega
    rcases this with rfl|rfl|rfl|rfl|rfl|rfl|rfl|rfl <;> rfl)
   have fz:wr.frozen? ⟨w.heap.size,k,none⟩=false:=Zb hb;have d3:decide ((k:Int) < n)=true:=decide_eq_true hlt;obtain ⟨HR,HM⟩:=Xx.loopNew (w:=w) ⟨f,o,hb⟩ m (Nat.le_refl _) (by omega:k < 16) true;have HR:=Zh_ HR;have HM:=Zh_ HM;clear hb;go_wp2;go_roundw
   case rel=>exact ⟨k+1,by omega,by go_num,HR.out,HM.out⟩
   case measure=>simp [intOf];omega
  ·have d3:decide ((k:Int) < n)=false:=decide_eq_false hlt;go_wp2;go_ret2;exact ⟨_,rfl,hR,Nat.le_refl _,m⟩
end
end Go.Proofs.YtkhonmhnchdpkaaGreat
