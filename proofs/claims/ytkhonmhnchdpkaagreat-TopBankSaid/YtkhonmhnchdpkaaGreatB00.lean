/- A part of the proof; no condition. -/
import Derived.Test.YtkhonmhnchdpkaaGreatRows
import Derived.WalkKit
import Derived.WalkSpells
import Derived.WalkLawsBesides
import Derived.Lib.Hide
import Derived.Deep.Draws
import Derived.Deep.QuietTactic
import Derived.BigQuiet
import Derived.Deep.DeepCutAuto
import Derived.Deep.CutBlock
import Derived.Deep.RegionHeld3
import Derived.StillTailTactics
import Derived.IntWalk
import Derived.Laws.Externs
import Derived.Laws.Cover2
import Derived.Maps.AppendAt
import Derived.RegionTactic
import Derived.ChangeAlike
import Derived.Maps.OwnSet
set_option maxRecDepth 100000
set_option maxHeartbeats 40000000
namespace Go.Proofs.YtkhonmhnchdpkaaGreat
open Go.RowKit _root_.Go.Proofs.Tryz
open Go renaming World→W
open Value renaming int→U,pointer→E,slice→L,float→Z,agg→A9
open IntKind renaming i64→Y,u64→Y9
open FloatKind renaming f64→V
open Obj renaming cells→X
open Option renaming some→I,none→O
open Ending renaming returned→R9
open _root_.Go.Proofs.Tryz renaming prog→N
abbrev Zh_:=@Lib.hid
abbrev Zo_:=@Option.some.inj
theorem J {α:Sort _} {a:α}:a=a:=rfl
abbrev Q9:=@if_neg
abbrev P9:=@if_pos
abbrev D9:=@decide_eq_false
abbrev B9:=@lt_of_block
theorem Nn_ {a b:Nat} {o:Option Nat} (h:a=b->False) (k:o=some a->False):a∉b :: o.toList:=by
 intro hm;simp only [List.mem_cons,Option.mem_toList] at hm;exact hm.elim h k
section
structure Ze (S:List Nat) (w w':W):Prop where
 os:w'.os=w.os
 tape:w'.tape=w.tape
 output:w'.output=w.output
 size:w.heap.size<=w'.heap.size
 block:∀ k,k < w.heap.size->k∉S->w'.heap[k]? =w.heap[k]?
theorem Zr_ (S:List Nat) (w:W):Ze S w w:=⟨J,J,J,Nat.le_refl _,λ _ _ _=>J⟩
theorem Ze.trans {S:List Nat} {a b c:W} (h:Ze S a b) (k:Ze S b c):Ze S a c:=
 ⟨k.os.trans h.os,k.tape.trans h.tape,k.output.trans h.output,Nat.le_trans h.size k.size,
  λ i hi hs=>(k.block i (Nat.lt_of_lt_of_le hi h.size) hs).trans (h.block i hi hs)⟩
theorem Ze.mono {S T:List Nat} {a b:W} (h:Ze S a b) (hs:∀ x∈S,x∈T\/a.heap.size<=x):Ze T a b:=
 ⟨h.os,h.tape,h.output,h.size,λ i hi ht=>h.block i hi (λ hm=>(hs i hm).elim ht (λ h'=>by omega))⟩
theorem Ze.drew {S:List Nat} {a b:W} (h:Ze S a b):Ze S a b.drew:=⟨h.os,h.tape,h.output,h.size,h.block⟩
theorem Ze.alloc {S:List Nat} {a b:W} (h:Ze S a b) (o:Obj):Ze S a (b.alloc o):=
 ⟨h.os,h.tape,h.output,Nat.le_trans h.size (by simp),λ i hi hs=>(Below.heap_alloc _ _ _ (Nat.lt_of_lt_of_le hi h.size)).trans (h.block i hi hs)⟩
theorem Ze.setCell {S:List Nat} {a b:W} (h:Ze S a b) (p:Addr) (u:Value) (hp:p.block∈S\/a.heap.size<=p.block):Ze S a (b.setCell p u):=
 ⟨h.os,h.tape,h.output,Nat.le_trans h.size (by simp),λ i hi hs=>(Below.heap_setCell _ _ _ _ (λ e=>by
  subst e;rcases hp with hp|hp
  ·exact hs hp
  ·omega)).trans (h.block i hi hs)⟩
theorem Ze.setRow {S:List Nat} {a b:W} (h:Ze S a b) (g:Nat) (cs:Array Value) (hp:g∈S\/a.heap.size<=g):Ze S a (b.setRow g cs):=
 ⟨h.os,h.tape,h.output,Nat.le_trans h.size (by simp [World.setRow]),λ i hi hs=>(setRow_other b g i cs (λ e=>by
  subst e;rcases hp with hp|hp
  ·exact hs hp
  ·omega)).trans (h.block i hi hs)⟩
theorem Ze.below {w w':W} (h:Ze [] w w'):Below w.heap.size w w':=⟨h.os,h.tape,h.output,h.size,λ k hk=>h.block k hk (by simp)⟩
theorem Ze.at {S:List Nat} {w w':W} (h:Ze S w w') {k:Nat} {o:Obj} (hk:w.heap[k]? =I o) (hs:k∉S):w'.heap[k]? =I o:=
 (h.block k (B9 hk) hs).trans hk
theorem Zc (w:W) (o:Obj):(w.alloc o).heap[w.heap.size]? =I o:=heap_alloc_new _ _
theorem Zf {w:W} (o:Obj) {k:Nat} {x:Obj} (h:w.heap[k]? =I x):(w.alloc o).heap[k]? =I x:=
 (Below.heap_alloc w o k (B9 h)).trans h
theorem Zr {w:W} {b i:Nat} (v:Value) {k:Nat} {x:Obj} (h:w.heap[k]? =I x) (hk:k≠b):(w.setCell ⟨b,i,O⟩ v).heap[k]? =I x:=
 (Below.heap_setCell w ⟨b,i,O⟩ v k hk).trans h
theorem Zd {w:W} {b i:Nat} (v:Value) {c:Array Value} {t:TypeId} {f:Nat×Nat} (h:w.heap[b]? =I (.cells c t f)):
  (w.setCell ⟨b,i,O⟩ v).heap[b]? =I (.cells (c.setIfInBounds i v) t f):=by
 show (w.heap.modify b _)[b]? =_;rw [Array.getElem?_modify,P9 rfl,h];rfl
theorem Za {w:W} {b i:Nat} {c:Array Value} {t:TypeId} {f:Nat×Nat} {v:Value} (h:w.heap[b]? =I (.cells c t f)) (hv:c[i]? =I v):w.cell? ⟨b,i,O⟩=I v:=by
 simp [World.cell?,h,hv]
theorem Zb {w:W} {b i:Nat} {c:Array Value} {t:TypeId} (h:w.heap[b]? =I (.cells c t (0,0))):w.frozen? ⟨b,i,O⟩=false:=by
 simp [World.frozen?,h]
structure Zh where
 ws:List Int
 op:Bool
 ct:Int
def Ng (l:List Int):Array Value:=(l.map (Value.int .u64)).toArray
structure Zj (t:TypeId) (w:W) (a b:Nat) (s:Zh):Prop where
 hd:w.heap[a]? =I (X #[L (I ⟨b,0,O⟩) s.ws.length s.ws.length,.bool s.op,U Y s.ct] t (0,0))
 ws:w.heap[b]? =I (.cells (Ng s.ws) 54 (0,0))
 ne:a≠b
 len:s.ws.length<=4096
theorem Zj.mod {t:TypeId} {S:List Nat} {w w':W} {a b:Nat} {s:Zh} (h:Zj t w a b s) (hm:Ze S w w') (ha:a∉S) (hb:b∉S):Zj t w' a b s:=
 ⟨hm.at h.hd ha,hm.at h.ws hb,h.ne,h.len⟩
theorem Zj.jf {t:TypeId} {w:W} {a b:Nat} {s:Zh} (h:Zj t w a b s):a < w.heap.size:=B9 h.hd
theorem Zj.je {t:TypeId} {w:W} {a b:Nat} {s:Zh} (h:Zj t w a b s):b < w.heap.size:=B9 h.ws
theorem Zj.alloc {t:TypeId} {w:W} {a b:Nat} {s:Zh} (h:Zj t w a b s) (o:Obj):Zj t (w.alloc o) a b s:=
 ⟨Zf o h.hd,Zf o h.ws,h.ne,h.len⟩
theorem Zj.drew {t:TypeId} {w:W} {a b:Nat} {s:Zh} (h:Zj t w a b s):Zj t w.drew a b s:=⟨h.hd,h.ws,h.ne,h.len⟩
theorem Zj.other {t:TypeId} {w:W} {a b:Nat} {s:Zh} (h:Zj t w a b s) (c i:Nat) (v:Value) (ha:a≠c) (hb:b≠c):Zj t (w.setCell ⟨c,i,O⟩ v) a b s:=
 ⟨Zr v h.hd ha,Zr v h.ws hb,h.ne,h.len⟩
theorem u64s_get (l:List Int) (i:Nat) (h:i < l.length):(Ng l)[i]? =I (U Y9 (l.getD i 0)):=by
 simp [Ng,h]
theorem u64s_set (l:List Int) (i:Nat) (v:Int):(Ng l).setIfInBounds i (U Y9 v)=Ng (l.set i v):=by
 simp [Ng,List.map_set]
theorem Zj.cells {t:TypeId} {w:W} {a b:Nat} {s:Zh} (h:Zj t w a b s):
  w.cell? ⟨a,0,O⟩=I (L (I ⟨b,0,O⟩) s.ws.length s.ws.length)/\w.cell? ⟨a,1,O⟩=I (.bool s.op)/\w.cell? ⟨a,2,O⟩=I (U Y s.ct)/\
  w.frozen? ⟨a,1,O⟩=false/\w.frozen? ⟨a,2,O⟩=false:=
 ⟨Za h.hd rfl,Za h.hd rfl,Za h.hd rfl,Zb h.hd,Zb h.hd⟩
theorem Zj.word {t:TypeId} {w:W} {a b:Nat} {s:Zh} (h:Zj t w a b s) {i:Nat} (hi:i < s.ws.length):
  w.cell? ⟨b,i,O⟩=I (U Y9 (s.ws.getD i 0))/\w.frozen? ⟨b,i,O⟩=false:=
 ⟨Za h.ws (u64s_get _ _ hi),Zb h.ws⟩
def Zh.acc (s:Zh) (i:Int):Int:=if i < 0\/(s.ws.length:Int)<=i then 30 else if s.op then 0 else 31
def Zh.jb (s:Zh):Zh:={s with op:=false,ct:=wrap64 (s.ct+1)}
def Zh.at (s:Zh) (i:Int):Int:=s.ws.getD i.toNat 0
def Zh.xv (s:Zh) (i:Int):Int:=if s.acc i=0 then s.at i else 0
def Zh.load (s:Zh) (i:Int):Zh:=if s.acc i=0 then s.jb else s
def Zh.put (s:Zh) (i v:Int):Zh:={s with ws:=s.ws.set i.toNat v}
def Zh.store (s:Zh) (i v:Int):Zh:=if s.acc i=0 then s.jb.put i v else s
def Zh.add (s:Zh) (i v:Int):Zh:=if s.acc i=0 then s.jb.put i (IntKind.u64.wrap (s.at i+v)) else s
def Zh.opened (s:Zh):Zh:={s with op:=true}
def Zh.bad (s:Zh) (i:Int):Int:=if i < 0\/(s.ws.length:Int)<=i then 30 else 0
def Zh.xh (s:Zh) (i:Int):Int:=if s.bad i=0 then s.at i else 0
def Zh.jy (s:Zh) (i v:Int):Zh:=if s.bad i=0 then s.put i v else s
theorem Zj.jb {t:TypeId} {w:W} {a b:Nat} {s:Zh} (h:Zj t w a b s):
  Zj t ((w.setCell ⟨a,1,O⟩ (.bool false)).setCell ⟨a,2,O⟩ (U Y (wrap64 (s.ct+1)))) a b s.jb:=
 ⟨Zd _ (Zd _ h.hd),Zr _ (Zr _ h.ws h.ne.symm) h.ne.symm,h.ne,h.len⟩
theorem Zj.put {t:TypeId} {w:W} {a b:Nat} {s:Zh} (h:Zj t w a b s) (i:Nat) (v:Int):Zj t (w.setCell ⟨b,i,O⟩ (U Y9 v)) a b (s.put i v):=by
 refine ⟨?_,?_,h.ne,?_⟩
 ·simpa [Zh.put] using Zr (U Y9 v) h.hd h.ne
 ·have:=Zd (i:=i) (U Y9 v) h.ws;rw [u64s_set] at this;exact this
 ·simpa [Zh.put] using h.len
theorem Zj.opened {t:TypeId} {w:W} {a b:Nat} {s:Zh} (h:Zj t w a b s):Zj t (w.setCell ⟨a,1,O⟩ (.bool true)) a b s.opened:=
 ⟨Zd _ h.hd,Zr _ h.ws h.ne.symm,h.ne,h.len⟩
theorem Ze.wj {x y:W} {a b:Nat} (h:Ze [a,b] x y) (i:Nat) (v:Value):Ze [a,b] x (y.setCell ⟨a,i,O⟩ v):=h.setCell _ _ (.inl (by simp))
theorem Ze.wi {x y:W} {a b:Nat} (h:Ze [a,b] x y) (i:Nat) (v:Value):Ze [a,b] x (y.setCell ⟨b,i,O⟩ v):=h.setCell _ _ (.inl (by simp))
theorem Ze.xy {x y:W} {S:List Nat} (h:Ze S x y) (c i:Nat) (v:Value) (hc:x.heap.size<=c):Ze S x (y.setCell ⟨c,i,O⟩ v):=h.setCell _ _ (.inr hc)
theorem Ze.qj {x y:W} (S:List Nat) (h:Ze [] x y):Ze S x y:=h.mono (by simp)
theorem Ze.then {x y z:W} {S R:List Nat} (h:Ze S x y) (k:Ze R y z) (hs:∀ n∈R,n∈S\/x.heap.size<=n):Ze S x z:=
 ⟨k.os.trans h.os,k.tape.trans h.tape,k.output.trans h.output,Nat.le_trans h.size k.size,
  λ i hi hn=>(k.block i (Nat.lt_of_lt_of_le hi h.size) (λ hr=>(hs i hr).elim hn (λ h'=>by omega))).trans (h.block i hi hn)⟩
def Zh.fresh (n:Nat):Zh:={ws:=List.replicate n 0,op:=false,ct:=0}
theorem info28:(N.info? 54).map (λ i=>(i.zero,i.size,i.bytes))=I (I (U Y9 0),1,8):=by kernel_rfl
theorem Mn (v:Value) (n:Nat):madeCells #[v] n=(List.replicate n v).toArray:=by
 apply Array.ext
 ·simp [size_madeCells]
 ·intro i h1 h2;simp [madeCells,Nat.mod_one]
theorem Ox (n:Nat):(List.replicate n (U Y9 0)).toArray=Ng (List.replicate n 0):=by
 simp [Ng]
theorem make_u64 (n:Nat) (hn:n<=4096) (w:W):
  (Instr.makeSlice 135 (U Y n) (U Y n)).run N w=.ok (L (I ⟨w.heap.size,0,O⟩) n n) (w.alloc (.cells (Ng (List.replicate n 0)) 54)):=by
 obtain ⟨i0,hi,hz0,hz1,hz2⟩:=info_parts info28;have h:=run_make (P:=N) w 135 54 i0 (U Y9 0) underlying135 hi hz0 .i64 .i64 n n (by omega) (by omega) (by rw [hz2];omega) (by omega);rw [hz1] at h;simpa only [Value.cells,Mn,Ox,Int.toNat_natCast,Nat.mul_one] using h
theorem Zj.yw (w:W) (n:Nat) (hn:n<=4096) (t:TypeId):
  Zj t ((w.alloc (.cells (Ng (List.replicate n 0)) 54)).alloc (X #[L (I ⟨w.heap.size,0,O⟩) n n,.bool false,U Y 0] t)) (w.heap.size+1) w.heap.size (.fresh n):=by
 refine ⟨?_,?_,by omega,by simpa [Zh.fresh] using hn⟩
 ·have h:=heap_alloc_new (w.alloc (.cells (Ng (List.replicate n 0)) 54)) (X #[L (I ⟨w.heap.size,0,O⟩) n n,.bool false,U Y 0] t);rw [World.size_alloc] at h;simpa [Zh.fresh] using h
 ·exact Zf _ (heap_alloc_new _ _)
theorem Tv_ {a:Act} {t:Tmp} {v:Value} (h:a.eval (.tmp t)=v):a.tmps[t]?.getD undef=v:=by simpa [Act.eval] using h
theorem Zc7e_ {w:World} {k:Nat} {a0 a1 a2 a3 a4 a5 a6 a7 a8 a9 a10:Value} {t:TypeId} {f:Nat×Nat} (h:w.heap[k]? =some (.cells #[a0,a1,a2,a3,a4,a5,a6,a7,a8,a9,a10] t f)):w.cell? ⟨k,0,none⟩=some a0∧w.cell? ⟨k,1,none⟩=some a1∧w.cell? ⟨k,2,none⟩=some a2∧w.cell? ⟨k,3,none⟩=some a3∧w.cell? ⟨k,4,none⟩=some a4∧w.cell? ⟨k,5,none⟩=some a5∧w.cell? ⟨k,6,none⟩=some a6:=⟨Za h rfl,Za h rfl,Za h rfl,Za h rfl,Za h rfl,Za h rfl,Za h rfl⟩
theorem Zc7g_ {w:World} {k:Nat} {a0 a1 a2 a3 a4 a5 a6 a7 a8 a9 a10 a11 a12:Value} {t:TypeId} {f:Nat×Nat} (h:w.heap[k]? =some (.cells #[a0,a1,a2,a3,a4,a5,a6,a7,a8,a9,a10,a11,a12] t f)):w.cell? ⟨k,0,none⟩=some a0∧w.cell? ⟨k,1,none⟩=some a1∧w.cell? ⟨k,2,none⟩=some a2∧w.cell? ⟨k,3,none⟩=some a3∧w.cell? ⟨k,4,none⟩=some a4∧w.cell? ⟨k,5,none⟩=some a5∧w.cell? ⟨k,6,none⟩=some a6:=⟨Za h rfl,Za h rfl,Za h rfl,Za h rfl,Za h rfl,Za h rfl,Za h rfl⟩
theorem Zc10a_ {w:World} {k:Nat} {a0 a1 a2 a3 a4 a5 a6 a7 a8 a9:Value} {t:TypeId} {f:Nat×Nat} (h:w.heap[k]? =some (.cells #[a0,a1,a2,a3,a4,a5,a6,a7,a8,a9] t f)):w.cell? ⟨k,0,none⟩=some a0∧w.cell? ⟨k,1,none⟩=some a1∧w.cell? ⟨k,2,none⟩=some a2∧w.cell? ⟨k,3,none⟩=some a3∧w.cell? ⟨k,4,none⟩=some a4∧w.cell? ⟨k,5,none⟩=some a5∧w.cell? ⟨k,6,none⟩=some a6∧w.cell? ⟨k,7,none⟩=some a7∧w.cell? ⟨k,8,none⟩=some a8∧w.cell? ⟨k,9,none⟩=some a9:=⟨Za h rfl,Za h rfl,Za h rfl,Za h rfl,Za h rfl,Za h rfl,Za h rfl,Za h rfl,Za h rfl,Za h rfl⟩
end
section
theorem Zj.drewN {t:TypeId} {w:W} {a b:Nat} {s:Zh} (h:Zj t w a b s) (n:Nat):Zj t (w.drewN n) a b s:=⟨h.hd,h.ws,h.ne,h.len⟩
theorem Ze.drewN {S:List Nat} {a b:W} (h:Ze S a b) (n:Nat):Ze S a (b.drewN n):=⟨h.os,h.tape,h.output,h.size,h.block⟩
end
section
def I3 (a b:Nat->Bool):Bool:=if a 0=b 0 then if a 1=b 1 then if a 2=b 2 then if a 3=b 3 then if a 4=b 4 then if a 5=b 5 then if a 6=b 6 then if a 7=b 7 then true else false else false else false else false else false else false else false else false
theorem La (w:W):(sizeOf 4).run N w=.ok 1 w:=by kernel_rfl
theorem eq1 (d:Nat) (a b:Bool) (w:W):(Op.equalIn (d+1) 4 (.bool a) (.bool b)).run N w=.ok (a==b) w:=by
 simp [Op.equalIn,run_underlying underlying4]
theorem part4 (xs:Array Value) (i:Nat) (v:Value) (h:xs[i]? =I v) (w:W):(part 4 xs i).run N w=.ok v w:=by
 have hu:=λ w=>run_underlying (P:=N) (w:=w) underlying4;unfold part isAgg;simp [hu,h]
theorem eqArr (d:Nat) (a b:Nat->Bool) (w:W):(Op.equalIn (d+2) 121 (A9 #[.bool (a 0),.bool (a 1),.bool (a 2),.bool (a 3),.bool (a 4),.bool (a 5),.bool (a 6),.bool (a 7)]) (A9 #[.bool (b 0),.bool (b 1),.bool (b 2),.bool (b 3),.bool (b 4),.bool (b 5),.bool (b 6),.bool (b 7)])).run N w=.ok (I3 a b) w:=by
 rw [show d+2=(d+1)+1 from J,Op.equalIn.eq_def];simp only [Sem.run_bind,run_underlying underlying121,Result.andThen_ok,La];simp [Std.Legacy.Range.forIn_eq_forIn_range',List.range',part4,eq1];unfold I3;split
 ·split
  ·split
   ·split
    ·split
     ·split
      ·split
       ·split <;> rfl
       ·rfl
      ·rfl
     ·rfl
    ·rfl
   ·rfl
  ·rfl
 ·rfl
theorem run_eql8 (a b:Nat->Bool) (w:W):(binOp .eql 121 (A9 #[.bool (a 0),.bool (a 1),.bool (a 2),.bool (a 3),.bool (a 4),.bool (a 5),.bool (a 6),.bool (a 7)]) (A9 #[.bool (b 0),.bool (b 1),.bool (b 2),.bool (b 3),.bool (b 4),.bool (b 5),.bool (b 6),.bool (b 7)])).run N w=.ok (.bool (I3 a b)) w:=by
 simp only [binOp];simp [Op.equal,Op.maxDepth,eqArr 9998 a b]
theorem run_neq8 (a b:Nat->Bool) (w:W):(binOp .neq 121 (A9 #[.bool (a 0),.bool (a 1),.bool (a 2),.bool (a 3),.bool (a 4),.bool (a 5),.bool (a 6),.bool (a 7)]) (A9 #[.bool (b 0),.bool (b 1),.bool (b 2),.bool (b 3),.bool (b 4),.bool (b 5),.bool (b 6),.bool (b 7)])).run N w=.ok (.bool (!I3 a b)) w:=by
 simp only [binOp];simp [Op.equal,Op.maxDepth,eqArr 9998 a b]
def Hr (f:Nat->Bool) (n o:Int):Array Value:=#[.bool (f 0),.bool (f 1),.bool (f 2),.bool (f 3),.bool (f 4),.bool (f 5),.bool (f 6),.bool (f 7),.bool (f 8),.bool (f 9),.bool (f 10),.bool (f 11),.bool (f 12),.bool (f 13),.bool (f 14),.bool (f 15),U Y n,U Y o]
def Qd (w:W) (r:Nat) (n:Int):Prop:=∃ f o,w.heap[r]? =I (.cells (Hr f n o) 123 (0,0))
variable {w w':W} {r:Nat} {n:Int}
theorem Qd.mod {S:List Nat} (h:Qd w r n) (m:Ze S w w') (hr:r∉S):Qd w' r n:=by
 obtain ⟨f,o,h⟩:=h;exact ⟨f,o,m.at h hr⟩
def updB (f:Nat->Bool) (k:Nat) (b:Bool):Nat->Bool:=λ i=>if i=k then b else f i
theorem Sk (f:Nat->Bool) (n o:Int) (i:Nat) (hi:i < 16) (b:Bool):(Hr f n o).setIfInBounds i (.bool b)=Hr (updB f i b) n o:=by
 match i,hi with
 |0,_=>rfl
 |1,_=>rfl
 |2,_=>rfl
 |3,_=>rfl
 |4,_=>rfl
 |5,_=>rfl
 |6,_=>rfl
 |7,_=>rfl
 |8,_=>rfl
 |9,_=>rfl
 |10,_=>rfl
 |11,_=>rfl
 |12,_=>rfl
 |13,_=>rfl
 |14,_=>rfl
 |15,_=>rfl
 |k+16,h=>omega
theorem Qd.xa (h:Qd w r n) (i:Nat) (hi:i < 16) (b:Bool):Qd (w.setCell ⟨r,i,O⟩ (.bool b)) r n:=by
 obtain ⟨f,o,h⟩:=h;exact ⟨updB f i b,o,by rw [<-Sk f n o i hi b];exact Zd _ h⟩
theorem Qd.setO (h:Qd w r n) (o':Int):Qd (w.setCell ⟨r,17,O⟩ (U Y o')) r n:=by
 obtain ⟨f,o,h⟩:=h;exact ⟨f,o',by rw [show Hr f n o'=(Hr f n o).setIfInBounds 17 (U Y o') from J];exact Zd _ h⟩
theorem Qd.lt (h:Qd w r n):r < w.heap.size:=by obtain ⟨f,o,h⟩:=h;exact B9 h
def Rnd (w:W) (r:Nat) (n:Int) (v:Value) (e:Ending) (w':W):Prop:=e=R9 v/\Qd w' r n/\Ze [r] w w'
theorem Xf (h:Qd w r n):Calls N 64 #[E (I ⟨r,0,O⟩)] w (Rnd w r n (.tuple #[])):=by
 obtain ⟨f,o,h⟩:=h;have hlt:=B9 h;have c0:w.cell? ⟨r,0,O⟩=I (.bool (f 0)):=Za h J;have c1:w.cell? ⟨r,1,O⟩=I (.bool (f 1)):=Za h J;have c2:w.cell? ⟨r,2,O⟩=I (.bool (f 2)):=Za h J;have c3:w.cell? ⟨r,3,O⟩=I (.bool (f 3)):=Za h J;have c4:w.cell? ⟨r,4,O⟩=I (.bool (f 4)):=Za h J;have c5:w.cell? ⟨r,5,O⟩=I (.bool (f 5)):=Za h J;have c6:w.cell? ⟨r,6,O⟩=I (.bool (f 6)):=Za h J;have c7:w.cell? ⟨r,7,O⟩=I (.bool (f 7)):=Za h J;have c8:w.cell? ⟨r,8,O⟩=I (.bool (f 8)):=Za h J;have c9:w.cell? ⟨r,9,O⟩=I (.bool (f 9)):=Za h J;have c10:w.cell? ⟨r,10,O⟩=I (.bool (f 10)):=Za h J;have c11:w.cell? ⟨r,11,O⟩=I (.bool (f 11)):=Za h J;have c12:w.cell? ⟨r,12,O⟩=I (.bool (f 12)):=Za h J;have c13:w.cell? ⟨r,13,O⟩=I (.bool (f 13)):=Za h J;have c14:w.cell? ⟨r,14,O⟩=I (.bool (f 14)):=Za h J;have c15:w.cell? ⟨r,15,O⟩=I (.bool (f 15)):=Za h J;have c17:w.cell? ⟨r,17,O⟩=I (U Y o):=Za h J;have f8:=Zb (i:=8) h;have f9:=Zb (i:=9) h;have f10:=Zb (i:=10) h;have f11:=Zb (i:=11) h;have f12:=Zb (i:=12) h;have f13:=Zb (i:=13) h;have f14:=Zb (i:=14) h;have f15:=Zb (i:=15) h;have f17:=Zb (i:=17) h;have H:=Zh_ h;clear h;have q1:=λ w=>run_eql8 (λ i=>f (8+i)) f w;have q2:=λ w=>run_neq8 f (λ _=>false) w;simp only [Nat.add_zero,Nat.reduceAdd] at q1 q2;obtain ⟨z1,hz1⟩:∃ z,z=I3 (λ i=>f (8+i)) f:=⟨_,J⟩;obtain ⟨z2,hz2⟩:∃ z,z=I3 f (λ _=>false):=⟨_,J⟩;rw [<-hz1] at q1;rw [<-hz2] at q2;clear hz1 hz2;cases z1 <;> cases z2
 all_goals
  go_enter func64,ntmps64;go_wp2;refine wp_region_quiet_lit (by kernel_rfl) (by kernel_rfl) ?_
  repeat (any_goals (first|go_big_quiet_step (fail)|quiet_step (fail)|(refine wpQuiet_step (λ K hK=>?_);go_simp;split <;> (refine hK _ ?_;clear hK K))))
  all_goals (refine wpQuiet_nil ?_;intro _ hw';obtain ⟨nq,hw''⟩:=hw';subst hw'')
  clear q1 q2;go_wp2;go_end0
 ·exact ⟨J,⟨f,o,H.out⟩,(Zr_ _ _).drewN nq⟩
 ·exact ⟨J,⟨f,o,H.out⟩,(Zr_ _ _).drewN nq⟩
 ·have hin:r∈[r]\/w.heap.size<=r:=.inl (by simp);have HR:Qd w r n:=⟨f,o,H.out⟩;exact ⟨J,(((((((((HR.mod ((Zr_ [] _).drewN nq) (by simp)).xa 8 (by decide) false).xa 9 (by decide) false).xa 10 (by decide) false).xa 11 (by decide) false).xa 12 (by decide) false).xa 13 (by decide) false).xa 14 (by decide) false).xa 15 (by decide) false).setO _,(((((((((((Zr_ _ _).drewN nq).setCell _ _ hin).setCell _ _ hin).setCell _ _ hin).setCell _ _ hin).setCell _ _ hin).setCell _ _ hin).setCell _ _ hin).setCell _ _ hin).setCell _ _ hin)⟩
 ·exact ⟨J,⟨f,o,H.out⟩,(Zr_ _ _).drewN nq⟩
end
section
variable {w w':W} {r:Nat} {n:Int}
theorem Ei (h:Qd w r n) (t:Int) (h0:0<=t) (h1:t < n) (h8:n<=8):Calls N 47 #[E (I ⟨r,0,O⟩),U Y t] w (Rnd w r n (U Y 0)):=by
 have HR:=Zh_ h;have hlt:=h.lt;obtain ⟨f,o,h⟩:=h;have c16:w.cell? ⟨r,16,O⟩=I (U Y n):=Za h J;have d1:decide (t < 0)=false:=D9 (by omega);have d2:decide (n<=t)=false:=D9 (by omega);have hh:t=0\/t=1\/t=2\/t=3\/t=4\/t=5\/t=6\/t=7:=by omega
 clear h0 h1 h8;rcases hh with rfl|rfl|rfl|rfl|rfl|rfl|rfl|rfl
 ·have a:w.cell? ⟨r,0,O⟩=I (.bool (f 0)):=Za h J;have b:w.cell? ⟨r,8,O⟩=I (.bool (f 8)):=Za h J;have c:=Zb (i:=8) h;clear h;obtain ⟨z,hz⟩:∃ z,z=f 0:=⟨_,J⟩;rw [<-hz] at a;clear hz;cases z
  ·go_enter func47,ntmps47;go_wp2;go_ret;exact ⟨J,HR.out,Zr_ _ _⟩
  ·go_enter func47,ntmps47;go_wp2_with fail;refine (Xf (HR.out.xa 8 (by decide) true)).mono ?_;rintro e w1 ⟨rfl,h1,m1⟩;go_wp2;go_ret;exact ⟨J,h1,((Zr_ _ _).setCell _ _ (.inl (by simp))).trans m1⟩
 ·have a:w.cell? ⟨r,1,O⟩=I (.bool (f 1)):=Za h J;have b:w.cell? ⟨r,9,O⟩=I (.bool (f 9)):=Za h J;have c:=Zb (i:=9) h;clear h;obtain ⟨z,hz⟩:∃ z,z=f 1:=⟨_,J⟩;rw [<-hz] at a;clear hz;cases z
  ·go_enter func47,ntmps47;go_wp2;go_ret;exact ⟨J,HR.out,Zr_ _ _⟩
  ·go_enter func47,ntmps47;go_wp2_with fail;refine (Xf (HR.out.xa 9 (by decide) true)).mono ?_;rintro e w1 ⟨rfl,h1,m1⟩;go_wp2;go_ret;exact ⟨J,h1,((Zr_ _ _).setCell _ _ (.inl (by simp))).trans m1⟩
 ·have a:w.cell? ⟨r,2,O⟩=I (.bool (f 2)):=Za h J;have b:w.cell? ⟨r,10,O⟩=I (.bool (f 10)):=Za h J;have c:=Zb (i:=10) h;clear h;obtain ⟨z,hz⟩:∃ z,z=f 2:=⟨_,J⟩;rw [<-hz] at a;clear hz;cases z
  ·go_enter func47,ntmps47;go_wp2;go_ret;exact ⟨J,HR.out,Zr_ _ _⟩
  ·go_enter func47,ntmps47;go_wp2_with fail;refine (Xf (HR.out.xa 10 (by decide) true)).mono ?_;rintro e w1 ⟨rfl,h1,m1⟩;go_wp2;go_ret;exact ⟨J,h1,((Zr_ _ _).setCell _ _ (.inl (by simp))).trans m1⟩
 ·have a:w.cell? ⟨r,3,O⟩=I (.bool (f 3)):=Za h J;have b:w.cell? ⟨r,11,O⟩=I (.bool (f 11)):=Za h J;have c:=Zb (i:=11) h;clear h;obtain ⟨z,hz⟩:∃ z,z=f 3:=⟨_,J⟩;rw [<-hz] at a;clear hz;cases z
  ·go_enter func47,ntmps47;go_wp2;go_ret;exact ⟨J,HR.out,Zr_ _ _⟩
  ·go_enter func47,ntmps47;go_wp2_with fail;refine (Xf (HR.out.xa 11 (by decide) true)).mono ?_;rintro e w1 ⟨rfl,h1,m1⟩;go_wp2;go_ret;exact ⟨J,h1,((Zr_ _ _).setCell _ _ (.inl (by simp))).trans m1⟩
 ·have a:w.cell? ⟨r,4,O⟩=I (.bool (f 4)):=Za h J;have b:w.cell? ⟨r,12,O⟩=I (.bool (f 12)):=Za h J;have c:=Zb (i:=12) h;clear h;obtain ⟨z,hz⟩:∃ z,z=f 4:=⟨_,J⟩;rw [<-hz] at a;clear hz;cases z
  ·go_enter func47,ntmps47;go_wp2;go_ret;exact ⟨J,HR.out,Zr_ _ _⟩
  ·go_enter func47,ntmps47;go_wp2_with fail;refine (Xf (HR.out.xa 12 (by decide) true)).mono ?_;rintro e w1 ⟨rfl,h1,m1⟩;go_wp2;go_ret;exact ⟨J,h1,((Zr_ _ _).setCell _ _ (.inl (by simp))).trans m1⟩
 ·have a:w.cell? ⟨r,5,O⟩=I (.bool (f 5)):=Za h J;have b:w.cell? ⟨r,13,O⟩=I (.bool (f 13)):=Za h J;have c:=Zb (i:=13) h;clear h;obtain ⟨z,hz⟩:∃ z,z=f 5:=⟨_,J⟩;rw [<-hz] at a;clear hz;cases z
  ·go_enter func47,ntmps47;go_wp2;go_ret;exact ⟨J,HR.out,Zr_ _ _⟩
  ·go_enter func47,ntmps47;go_wp2_with fail;refine (Xf (HR.out.xa 13 (by decide) true)).mono ?_;rintro e w1 ⟨rfl,h1,m1⟩;go_wp2;go_ret;exact ⟨J,h1,((Zr_ _ _).setCell _ _ (.inl (by simp))).trans m1⟩
 ·have a:w.cell? ⟨r,6,O⟩=I (.bool (f 6)):=Za h J;have b:w.cell? ⟨r,14,O⟩=I (.bool (f 14)):=Za h J;have c:=Zb (i:=14) h;clear h;obtain ⟨z,hz⟩:∃ z,z=f 6:=⟨_,J⟩;rw [<-hz] at a;clear hz;cases z
  ·go_enter func47,ntmps47;go_wp2;go_ret;exact ⟨J,HR.out,Zr_ _ _⟩
  ·go_enter func47,ntmps47;go_wp2_with fail;refine (Xf (HR.out.xa 14 (by decide) true)).mono ?_;rintro e w1 ⟨rfl,h1,m1⟩;go_wp2;go_ret;exact ⟨J,h1,((Zr_ _ _).setCell _ _ (.inl (by simp))).trans m1⟩
 ·have a:w.cell? ⟨r,7,O⟩=I (.bool (f 7)):=Za h J;have b:w.cell? ⟨r,15,O⟩=I (.bool (f 15)):=Za h J;have c:=Zb (i:=15) h;clear h;obtain ⟨z,hz⟩:∃ z,z=f 7:=⟨_,J⟩;rw [<-hz] at a;clear hz;cases z
  ·go_enter func47,ntmps47;go_wp2;go_ret;exact ⟨J,HR.out,Zr_ _ _⟩
  ·go_enter func47,ntmps47;go_wp2_with fail;refine (Xf (HR.out.xa 15 (by decide) true)).mono ?_;rintro e w1 ⟨rfl,h1,m1⟩;go_wp2;go_ret;exact ⟨J,h1,((Zr_ _ _).setCell _ _ (.inl (by simp))).trans m1⟩
theorem No (h:Qd w r n) (t:Int) (h0:0<=t) (h1:t < n) (h8:n<=8):Calls N 44 #[E (I ⟨r,0,O⟩),U Y t] w (Rnd w r n (U Y 0)):=by
 have HR:=Zh_ h;have hlt:=h.lt;obtain ⟨f,o,h⟩:=h;have c16:w.cell? ⟨r,16,O⟩=I (U Y n):=Za h J;have d1:decide (t < 0)=false:=D9 (by omega);have d2:decide (n<=t)=false:=D9 (by omega);have hh:t=0\/t=1\/t=2\/t=3\/t=4\/t=5\/t=6\/t=7:=by omega
 clear h0 h1 h8;rcases hh with rfl|rfl|rfl|rfl|rfl|rfl|rfl|rfl
 ·have a:w.cell? ⟨r,0,O⟩=I (.bool (f 0)):=Za h J;have b:w.cell? ⟨r,8,O⟩=I (.bool (f 8)):=Za h J;have c:=Zb (i:=8) h;have c':w.frozen? ⟨r,0,O⟩=false:=Zb h;clear h;obtain ⟨z,hz⟩:∃ z,z=f 0:=⟨_,J⟩;rw [<-hz] at a;clear hz;cases z
  ·go_enter func44,ntmps44;go_wp2;go_ret;exact ⟨J,HR.out,Zr_ _ _⟩
  ·go_enter func44,ntmps44;go_wp2_with fail;refine (Xf ((HR.out.xa 0 (by decide) false).xa 8 (by decide) false)).mono ?_;rintro e w1 ⟨rfl,h1,m1⟩;go_wp2;go_ret;exact ⟨J,h1,(((Zr_ _ _).setCell _ _ (.inl (by simp))).setCell _ _ (.inl (by simp))).trans m1⟩
 ·have a:w.cell? ⟨r,1,O⟩=I (.bool (f 1)):=Za h J;have b:w.cell? ⟨r,9,O⟩=I (.bool (f 9)):=Za h J;have c:=Zb (i:=9) h;have c':w.frozen? ⟨r,1,O⟩=false:=Zb h;clear h;obtain ⟨z,hz⟩:∃ z,z=f 1:=⟨_,J⟩;rw [<-hz] at a;clear hz;cases z
  ·go_enter func44,ntmps44;go_wp2;go_ret;exact ⟨J,HR.out,Zr_ _ _⟩
  ·go_enter func44,ntmps44;go_wp2_with fail;refine (Xf ((HR.out.xa 1 (by decide) false).xa 9 (by decide) false)).mono ?_;rintro e w1 ⟨rfl,h1,m1⟩;go_wp2;go_ret;exact ⟨J,h1,(((Zr_ _ _).setCell _ _ (.inl (by simp))).setCell _ _ (.inl (by simp))).trans m1⟩
 ·have a:w.cell? ⟨r,2,O⟩=I (.bool (f 2)):=Za h J;have b:w.cell? ⟨r,10,O⟩=I (.bool (f 10)):=Za h J;have c:=Zb (i:=10) h;have c':w.frozen? ⟨r,2,O⟩=false:=Zb h;clear h;obtain ⟨z,hz⟩:∃ z,z=f 2:=⟨_,J⟩;rw [<-hz] at a;clear hz;cases z
  ·go_enter func44,ntmps44;go_wp2;go_ret;exact ⟨J,HR.out,Zr_ _ _⟩
  ·go_enter func44,ntmps44;go_wp2_with fail;refine (Xf ((HR.out.xa 2 (by decide) false).xa 10 (by decide) false)).mono ?_;rintro e w1 ⟨rfl,h1,m1⟩;go_wp2;go_ret;exact ⟨J,h1,(((Zr_ _ _).setCell _ _ (.inl (by simp))).setCell _ _ (.inl (by simp))).trans m1⟩
 ·have a:w.cell? ⟨r,3,O⟩=I (.bool (f 3)):=Za h J;have b:w.cell? ⟨r,11,O⟩=I (.bool (f 11)):=Za h J;have c:=Zb (i:=11) h;have c':w.frozen? ⟨r,3,O⟩=false:=Zb h;clear h;obtain ⟨z,hz⟩:∃ z,z=f 3:=⟨_,J⟩;rw [<-hz] at a;clear hz;cases z
  ·go_enter func44,ntmps44;go_wp2;go_ret;exact ⟨J,HR.out,Zr_ _ _⟩
  ·go_enter func44,ntmps44;go_wp2_with fail;refine (Xf ((HR.out.xa 3 (by decide) false).xa 11 (by decide) false)).mono ?_;rintro e w1 ⟨rfl,h1,m1⟩;go_wp2;go_ret;exact ⟨J,h1,(((Zr_ _ _).setCell _ _ (.inl (by simp))).setCell _ _ (.inl (by simp))).trans m1⟩
 ·have a:w.cell? ⟨r,4,O⟩=I (.bool (f 4)):=Za h J;have b:w.cell? ⟨r,12,O⟩=I (.bool (f 12)):=Za h J;have c:=Zb (i:=12) h;have c':w.frozen? ⟨r,4,O⟩=false:=Zb h;clear h;obtain ⟨z,hz⟩:∃ z,z=f 4:=⟨_,J⟩;rw [<-hz] at a;clear hz;cases z
  ·go_enter func44,ntmps44;go_wp2;go_ret;exact ⟨J,HR.out,Zr_ _ _⟩
  ·go_enter func44,ntmps44;go_wp2_with fail;refine (Xf ((HR.out.xa 4 (by decide) false).xa 12 (by decide) false)).mono ?_;rintro e w1 ⟨rfl,h1,m1⟩;go_wp2;go_ret;exact ⟨J,h1,(((Zr_ _ _).setCell _ _ (.inl (by simp))).setCell _ _ (.inl (by simp))).trans m1⟩
 ·have a:w.cell? ⟨r,5,O⟩=I (.bool (f 5)):=Za h J;have b:w.cell? ⟨r,13,O⟩=I (.bool (f 13)):=Za h J;have c:=Zb (i:=13) h;have c':w.frozen? ⟨r,5,O⟩=false:=Zb h;clear h;obtain ⟨z,hz⟩:∃ z,z=f 5:=⟨_,J⟩;rw [<-hz] at a;clear hz;cases z
  ·go_enter func44,ntmps44;go_wp2;go_ret;exact ⟨J,HR.out,Zr_ _ _⟩
  ·go_enter func44,ntmps44;go_wp2_with fail;refine (Xf ((HR.out.xa 5 (by decide) false).xa 13 (by decide) false)).mono ?_;rintro e w1 ⟨rfl,h1,m1⟩;go_wp2;go_ret;exact ⟨J,h1,(((Zr_ _ _).setCell _ _ (.inl (by simp))).setCell _ _ (.inl (by simp))).trans m1⟩
 ·have a:w.cell? ⟨r,6,O⟩=I (.bool (f 6)):=Za h J;have b:w.cell? ⟨r,14,O⟩=I (.bool (f 14)):=Za h J;have c:=Zb (i:=14) h;have c':w.frozen? ⟨r,6,O⟩=false:=Zb h;clear h;obtain ⟨z,hz⟩:∃ z,z=f 6:=⟨_,J⟩;rw [<-hz] at a;clear hz;cases z
  ·go_enter func44,ntmps44;go_wp2;go_ret;exact ⟨J,HR.out,Zr_ _ _⟩
  ·go_enter func44,ntmps44;go_wp2_with fail;refine (Xf ((HR.out.xa 6 (by decide) false).xa 14 (by decide) false)).mono ?_;rintro e w1 ⟨rfl,h1,m1⟩;go_wp2;go_ret;exact ⟨J,h1,(((Zr_ _ _).setCell _ _ (.inl (by simp))).setCell _ _ (.inl (by simp))).trans m1⟩
 ·have a:w.cell? ⟨r,7,O⟩=I (.bool (f 7)):=Za h J;have b:w.cell? ⟨r,15,O⟩=I (.bool (f 15)):=Za h J;have c:=Zb (i:=15) h;have c':w.frozen? ⟨r,7,O⟩=false:=Zb h;clear h;obtain ⟨z,hz⟩:∃ z,z=f 7:=⟨_,J⟩;rw [<-hz] at a;clear hz;cases z
  ·go_enter func44,ntmps44;go_wp2;go_ret;exact ⟨J,HR.out,Zr_ _ _⟩
  ·go_enter func44,ntmps44;go_wp2_with fail;refine (Xf ((HR.out.xa 7 (by decide) false).xa 15 (by decide) false)).mono ?_;rintro e w1 ⟨rfl,h1,m1⟩;go_wp2;go_ret;exact ⟨J,h1,(((Zr_ _ _).setCell _ _ (.inl (by simp))).setCell _ _ (.inl (by simp))).trans m1⟩
end
section
variable {w w':W} {r:Nat} {n:Int}
def RndNew (w:W) (n:Int) (e:Ending) (w':W):Prop:=∃ r,e=R9 (.tuple #[E (I ⟨r,0,O⟩),U Y 0])/\Qd w' r n/\w.heap.size<=r/\Ze [] w w'
theorem Qd.uw {w1:W} {r i:Nat} (h:Qd w1 r n) (m:Ze [] w w1) (hr:w.heap.size<=r) (hi:i < 16) (b:Bool):Qd (w1.setCell ⟨r,i,O⟩ (.bool b)) r n/\Ze [] w (w1.setCell ⟨r,i,O⟩ (.bool b)):=
 ⟨h.xa i hi b,m.setCell _ _ (.inr hr)⟩
theorem rndnew_c (h0:1<=n) (h8:n<=8):Calls N 42 #[U Y n] w (RndNew w n):=by
 have d1:decide (n < 1)=false:=D9 (by omega);have d2:decide (8 < n)=false:=D9 (by omega);go_enter func42,ntmps42;go_wp2_with fail
 go_loopw [16] (λ i wr=>∃ k:Nat,(k:Int)<=n/\i=U Y k/\Qd wr w.heap.size n/\Ze [] w wr) (λ i _=>n.toNat - (intOf i).toNat)
 case atStart=>exact ⟨0,by omega,rfl,⟨λ _=>false,0,Zc _ _⟩,(Zr_ _ _).alloc _⟩
 case round=>
  obtain ⟨k,hk,rfl,hR,m⟩:=hrel
  by_cases hlt:(k:Int) < n
  ·obtain ⟨f,o,hb⟩:=hR;have hlt8:k < 8:=by omega
   have c:wr.cell? ⟨w.heap.size,k,O⟩=I (.bool (f k)):=Za hb (by
    have:k=0\/k=1\/k=2\/k=3\/k=4\/k=5\/k=6\/k=7:=by omega
    rcases this with rfl|rfl|rfl|rfl|rfl|rfl|rfl|rfl <;> rfl)
   have fz:wr.frozen? ⟨w.heap.size,k,O⟩=false:=Zb hb;have d3:decide ((k:Int) < n)=true:=decide_eq_true hlt;obtain ⟨HR,HM⟩:=Qd.uw (w:=w) ⟨f,o,hb⟩ m (Nat.le_refl _) (by omega:k < 16) true;have HR:=Zh_ HR;have HM:=Zh_ HM;clear hb;go_wp2;go_roundw
   case rel=>exact ⟨k+1,by omega,by go_num,HR.out,HM.out⟩
   case measure=>simp [intOf];omega
  ·have d3:decide ((k:Int) < n)=false:=D9 hlt;go_wp2;go_ret2;exact ⟨_,J,hR,Nat.le_refl _,m⟩
end
section
theorem Ze.grown {S:List Nat} {a b c:W} {row:Option Nat} (h:Ze S a b) (hg:b.grownBy c row) (hr:∀ k,row=I k->k∈S\/a.heap.size<=k):Ze S a c:=
 ⟨hg.os.trans h.os,hg.tape.trans h.tape,hg.output.trans h.output,Nat.le_trans h.size hg.size,
  λ i hi hs=>(hg.block i (Nat.lt_of_lt_of_le hi h.size) (λ e=>(hr i e.symm).elim hs (λ h'=>by omega))).trans (h.block i hi hs)⟩
theorem Ya {w:W} {base:Nat} {e:TypeId} {size n:Nat} {v:Value} {xs:List Value} (h:w.ownsRow base e size v n xs) (hn:0 < n):
  ∃ g cap,v=L (I ⟨g,0,O⟩) n cap/\base<=g:=by
 rcases h.2 with ⟨_,h0⟩|⟨g,cap,cur,hv,hb,_⟩
 ·omega
 ·exact ⟨g,cap,hv,hb⟩
theorem Zo {w:W} {base:Nat} {e:TypeId} {size n:Nat} {v:Value} {xs:List Value} (h:w.ownsRow base e size v n xs):
  ∃ a cap,v=L a n cap:=by
 rcases h.2 with ⟨hv,h0⟩|⟨g,cap,cur,hv,hb,_⟩
 ·exact ⟨O,0,by rw [hv,h0]⟩
 ·exact ⟨_,cap,hv⟩
theorem Bw {w:W} {g n:Nat} {e:TypeId} {cur:Array Value} (hg:w.heap[g]? =I (.cells cur e (0,0))) (hc:cur.size=n) (hn:n<=maxLen) {base:Nat} (hb:base<=g):
  w.ownsRow base e 1 (L (I ⟨g,0,O⟩) n n) n cur.toList:=
 ⟨by simpa using hc,.inr ⟨g,n,cur,rfl,hb,hg,Nat.le_refl _,hn,by simpa using hc,by rw [List.take_of_length_le (by simp [hc])]⟩⟩
theorem W1:(N.info? 3).map (λ i=>(i.zero,i.size,i.bytes))=I (I (U Y 0),1,8):=by kernel_rfl
structure Rr (base:Nat) (e:TypeId) (w w':W) (v v':Value) (n:Nat) (xs:List Value):Prop where
 owns:w'.ownsRow base e 1 v' n xs
 grown:w.grownBy w' v.ownBlock
theorem Ze.uf {S:List Nat} {a b c:W} {base:Nat} {e:TypeId} {v v':Value} {n m:Nat} {xs ys:List Value} (h:Ze S a b) (o:Obj) (ho:b.ownsRow base e 1 v n xs) (hb:a.heap.size<=base)
  (hg:Rr base e (b.alloc o) c v v' m ys):Ze S a c:=
 (h.alloc o).grown hg.grown (λ k hk=>.inr (Nat.le_trans hb (ho.lt k hk).1))
theorem Ot {P:Program} {w:W} {ops:Array Oper} {rest:List Oper} {o:Oper} {a:Act} {Q:Exit->Act->W->Prop} (hgd:o.guard=O) (d s:Operand) (t:TypeId)
  (ho:o.op=.call {callee:=.builtin .append,args:=#[d,s],argTypes:=#[t,t]}) (base e:Nat) (i:TypeInfo) (z:Value) (ht:P.underlying t=I (.slice e)) (hi:P.info? e=I i) (hz:i.zero=I z)
  (hs:i.size=1) (hby:i.bytes=8) (hzs:z.cells.size=1) (v:Value) (n:Nat) (xs:List Value) (hv:a.eval d=v) (hown:w.ownsRow base e 1 v n xs)
  (p:Addr) (m c:Nat) (news:List Value) (hsv:a.eval s=L (I p) m c) (hl:news.length=m)
  (hnews:∀ j u,news[j]? =I u->w.cell? (p.add j)=I u) (h1:∀ u∈news,u.oneCell'=true) (hb:(n+m) * 8<=140737488355328) (hbase:base<=w.heap.size)
  (h:∀ v' w',Rr base e w w' v v' (n+m) (xs++news)->wpList P ops Q rest (a.put o.dst v') w'):wpList P ops Q (o :: rest) a w:=
 wpList_append_own _ hgd d s t ho base e i z 1 8 ht hi hz hs hby hzs (by decide) v n xs hv hown p m c news hsv (by simpa using hl) hnews h1 (by unfold maxLen;omega) hb hbase
  (λ v' w' h1 h2 _=>h v' w' ⟨h1,h2⟩)
end
section
variable {w w':W}
def Bf (w:W) (v:Value) (l:List Int):Prop:=∃ a cap,v=L a l.length cap/\(l=[]\/∃ b off,a=I ⟨b,off,O⟩/\b < w.heap.size/\∀ i,i < l.length->w.cell? ⟨b,off+i,O⟩=I (U Y (l.getD i 0)))
theorem Z5 {S:List Nat} {a:Addr} {v:Value} (m:Ze S w w') (hb:a.block < w.heap.size) (hS:a.block∉S) (h:w.cell? a=I v):w'.cell? a=I v:=
 (World.cell?_of_block (w:=w) (a:=a) (m.block a.block hb hS)).trans h
theorem Bf.mod {v:Value} {l:List Int} (h:Bf w v l) (m:Ze [] w w'):Bf w' v l:=by
 obtain ⟨a,cap,rfl,h⟩:=h;refine ⟨a,cap,J,h.imp id ?_⟩;rintro ⟨b,off,rfl,hb,hc⟩;exact ⟨b,off,J,Nat.lt_of_lt_of_le hb m.size,λ i hi=>Z5 m hb (by simp) (hc i hi)⟩
def Uh (n t:Int):Int:=((t.tmod n)+n).tmod n
theorem N6 {n:Int} (h:1<=n) (t:Int):0<=Uh n t/\Uh n t < n:=by
 unfold Uh;have a:=Int.lt_tmod_of_pos t (show 0 < n by omega);have b:=Int.tmod_lt_of_pos (t.tmod n+n) (show 0 < n by omega);exact ⟨Int.tmod_nonneg _ (by omega),b⟩
theorem fold_eq {n:Int} (h:1<=n) (t:Int):t.tmod n % n=Uh n t:=by
 unfold Uh;have a:=Int.lt_tmod_of_pos t (show 0 < n by omega);have e:(t.tmod n+n).tmod n=(t.tmod n+n) % n:=Int.tmod_eq_emod_of_nonneg (by omega);rw [e,Int.add_emod_right]
theorem Id (n:Nat) (hn:n<=65536) (w:W):
  (Instr.makeSlice 34 (U Y n) (U Y n)).run N w=.ok (L (I ⟨w.heap.size,0,O⟩) n n) (w.alloc (.cells (madeCells #[U Y 0] n) 3)):=by
 obtain ⟨i0,hi,hz0,hz1,hz2⟩:=info_parts W1;have h:=run_make (P:=N) w 34 3 i0 (U Y 0) underlying34 hi hz0 .i64 .i64 n n (by omega) (by omega) (by rw [hz2];omega) (by omega);rw [hz1] at h;simpa only [Value.cells,Int.toNat_natCast,Nat.mul_one] using h
def Rh (w:W) (g n k:Nat) (f:Nat->Int):Prop:=∃ c:Array Value,c.size=n/\(∀ j,j < k->c[j]? =I (U Y (f j)))/\w.heap[g]? =I (.cells c 3 (0,0))
theorem Rh.set {g n k:Nat} {f:Nat->Int} (h:Rh w g n k f) (hk:k < n) {v:Int} (hv:v=f k):Rh (w.setCell ⟨g,k,O⟩ (U Y v)) g n (k+1) f:=by
 obtain ⟨c,hc,hj,hb⟩:=h;refine ⟨c.setIfInBounds k (U Y v),by simpa using hc,λ j hjk=>?_,Zd _ hb⟩;rw [Array.getElem?_setIfInBounds]
 by_cases e:k=j
 ·subst e;simp [hc,hk,hv]
 ·rw [Q9 e];exact hj j (by omega)
theorem Rh.free {g n k:Nat} {f:Nat->Int} (h:Rh w g n k f) (j:Nat):w.frozen? ⟨g,j,O⟩=false:=by
 obtain ⟨c,hc,_,hb⟩:=h;exact Zb hb
theorem Rh.has {g n k:Nat} {f:Nat->Int} (h:Rh w g n k f) {j:Nat} (hj:j < n):∃ v,w.cell? ⟨g,j,O⟩=I v:=by
 obtain ⟨c,hc,_,hb⟩:=h;exact ⟨c[j],Za hb (Array.getElem?_eq_getElem (by omega))⟩
theorem fold_c {v:Value} {l:List Int} {n:Int} (h:Bf w v l) (hl:l.length<=65536) (h0:1<=n) (h8:n<=8):Calls N 23 #[v,U Y n] w λ e w'=>∃ cap,e=R9 (.tuple #[L (I ⟨w.heap.size,0,O⟩) l.length cap,U Y 0])/\(∀ i,i < l.length->w'.cell? ⟨w.heap.size,i,O⟩=I (U Y (Uh n (l.getD i 0))))/\w.heap.size < w'.heap.size/\Ze [] w w':=by
 obtain ⟨len,hlen⟩:∃ m,m=l.length:=⟨_,J⟩;have hmk:=Id len (by omega);have d1:decide (n < 1)=false:=D9 (by omega);have d2:decide (8 < n)=false:=D9 (by omega);have d3:decide ((65536:Int) < len)=false:=D9 (by omega);have dn:n≠0:=by omega
 have h':=h;obtain ⟨a,cap,rfl,hc⟩:=h';have HI:=Zh_ h;clear h;have HL:=Zh_ hlen;have hl':len<=65536:=by omega
 rw [<-hlen] at hc;clear hlen hl;rw [<-HL.out];go_enter func23,ntmps23;go_wp2_with fail
 go_loopw [23] (λ i wr=>∃ k:Nat,k<=len/\i=U Y k/\Rh wr w.heap.size len k (λ j=>Uh n (l.getD j 0))/\Ze [] w wr) (λ i _=>len - (intOf i).toNat)
 case atStart=>exact ⟨0,by omega,rfl,⟨_,by simp [madeCells],λ j hj=>absurd hj (by omega),Zc _ _⟩,(Zr_ _ _).alloc _⟩
 case round=>
  obtain ⟨k,hk,rfl,hU,m⟩:=hrel
  by_cases hlt:k < len
  ·obtain hc|⟨b,off,rfl,hb,hc⟩:=hc
   ·have:=HL.out;subst hc;simp at this;omega
   have c:=Z5 m hb (by simp) (hc k hlt);have fz:=hU.free k;obtain ⟨v0,hv0⟩:=hU.has hlt;have d4:decide ((k:Int) < len)=true:=decide_eq_true (by omega);obtain ⟨t,ht⟩:∃ t,t=l.getD k 0:=⟨_,J⟩;rw [<-ht] at c;have e1:=(Int.tmod_lt_of_pos t (show 0 < n by omega));have e2:=(Int.lt_tmod_of_pos t (show 0 < n by omega));have e3:wrap64 (t.tmod n)=t.tmod n:=IntWalk.wrap64_in _ ⟨by omega,by omega⟩;have e4:wrap64 (t.tmod n+n)=t.tmod n+n:=IntWalk.wrap64_in _ ⟨by omega,by omega⟩;have e5:wrap64 ((t.tmod n+n).tmod n)=Uh n t:=by have:=N6 h0 t;exact IntWalk.wrap64_in _ ⟨by unfold Uh at this;omega,by unfold Uh at this;omega⟩
   have HU:=Zh_ (hU.set hlt (v:=Uh n t) (by rw [ht]));have HM:=Zh_ (m.setCell ⟨w.heap.size,k,O⟩ (U Y (Uh n t)) (.inr (Nat.le_refl _)));have e6:t.tmod n % n=Uh n t:=fold_eq h0 t;have E6:=Zh_ e6;clear hU m hc ht e3 e4 e5 e6;go_wp2;rw [E6.out];go_roundw
   case rel=>exact ⟨k+1,by omega,by go_num,HU.out,HM.out⟩
   case measure=>simp [intOf];omega
  ·have d4:decide ((k:Int) < len)=false:=D9 (by omega);obtain rfl:k=len:=by omega
   go_wp2;go_ret2;obtain ⟨c,hc,hj,hb⟩:=hU;exact ⟨_,J,λ i hi=>Za hb (hj i hi),B9 hb,m⟩
end
section
theorem ex127:Extern.find Tryz.f53=I Extern.MathFloatBits.float64frombits:=by kernel_rfl
theorem ex130:Extern.find Tryz.f15=I Extern.MathFloatBits.float64bits:=by kernel_rfl
theorem Tw (n:Int) (w:W):(callFunc 53 #[U Y9 n]).run N w=.ok (.value (Z V n.toNat)) w:=by
 rw [run_callFunc_extern func53 (by kernel_rfl) (by kernel_rfl) (by kernel_rfl) ex127];rfl
theorem Sf (b:Nat) (w:W):(callFunc 15 #[Z V b]).run N w=.ok (.value (U Y9 (b:Int))) w:=by
 rw [run_callFunc_extern func15 (by kernel_rfl) (by kernel_rfl) (by kernel_rfl) ex130];rfl
theorem Zi (P:Program) (w:W) (a:Addr) (m:Mode) (k:FloatKind) (b:Nat):(store a (.float k b) m).run P w=stored P w a (.float k b) m:=run_store P w a _ m J
def Ft (x:Nat):Bool:=FloatKind.f64.format.order x x !=I .eq
def Zq (x:Nat):Nat:=if Ft x=true then 9221120237041090560 else x
theorem U4 (x:Nat):Zq (Zq x)=Zq x:=by
 have h:Ft 9221120237041090560=true:=by decide+kernel
 unfold Zq
 by_cases hx:Ft x=true
 ·rw [P9 hx,P9 h]
 ·rw [Q9 hx,Q9 hx]
theorem Yq (x:Nat) (w:W):Calls N 73 #[Z V x] w λ e w'=>e=R9 (Z V (Zq x))/\w'=w:=by
 have h1:=Tw 9221120237041090560 w;rw [show (9221120237041090560:Int).toNat=9221120237041090560 from J] at h1
 by_cases h:Ft x=true
 ·have hx:Zq x=9221120237041090560:=P9 h;have hn:(FloatKind.f64.format.order x x !=I .eq)=true:=h;rw [hx];clear hx h;go_enter func73,ntmps73;go_wp2;go_ret;exact ⟨J,J⟩
 ·have hx:Zq x=x:=Q9 h;have hn:(FloatKind.f64.format.order x x !=I .eq)=false:=by simpa [Ft] using h
  rw [hx];clear hx h;go_enter func73,ntmps73;go_wp2;go_ret;exact ⟨J,J⟩
theorem Fe (x:Nat) (w:W):Calls N 63 #[Z V x] w λ e w'=>e=R9 (U Y9 (Zq x:Int))/\w'=w:=by
 have h1:=Sf (Zq x);go_enter func63,ntmps63;go_wp2_with fail;refine (Yq x _).mono ?_;rintro e w1 ⟨rfl,hw1⟩;have hw1':=hw1.symm;subst hw1';go_wp2;go_ret;exact ⟨J,J⟩
theorem of_c (n:Int) (w:W):Calls N 60 #[U Y9 n] w λ e w'=>e=R9 (Z V (Zq n.toNat))/\w'=w:=by
 have h1:=Tw n;go_enter func60,ntmps60;go_wp2_with fail;refine (Yq n.toNat _).mono ?_;rintro e w1 ⟨rfl,hw1⟩;have hw1':=hw1.symm;subst hw1';go_wp2;go_ret;exact ⟨J,J⟩
end
section
attribute [local go_sem] Zi
variable {w w':W} {sb:Nat} {v v':Value}
def Jn (w:W) (u u':Value):Prop:=u'.ownBlock=u.ownBlock\/∃ g,u'.ownBlock=I g/\w.heap.size<=g
theorem Jn.refl:Jn w v v:=.inl J
theorem own_ty {t:TypeId} {n:Nat} {xs:List Value} (h:w.ownsRow 0 t 1 v n xs) {g:Nat} (hg:v.ownBlock=I g):∃ cur,w.heap[g]? =I (.cells cur t (0,0)):=by
 rcases h.2 with ⟨rfl,_⟩|⟨g',cap,cur,rfl,_,hgg,_⟩
 ·simp [Value.ownBlock] at hg
 ·simp [Value.ownBlock] at hg;subst hg;exact ⟨cur,hgg⟩
theorem Uv {t:TypeId} {n:Nat} {xs:List Value} {S:List Nat} (h:w.ownsRow 0 t 1 v n xs) (m:Ze S w w') (hu:∀ g,v.ownBlock=I g->g∉S):w'.ownsRow 0 t 1 v n xs:=by
 refine ⟨h.1,?_⟩;rcases h.2 with hn|⟨g,cap,cur,rfl,hb,hgg,rest⟩
 ·exact .inl hn
 ·exact .inr ⟨g,cap,cur,J,hb,m.at hgg (hu g J),rest⟩
theorem Hs {t:TypeId} {n:Nat} {xs:List Value} (h:w.ownsRow 0 t 1 v n xs) (k:Nat):(w.drewN k).ownsRow 0 t 1 v n xs:=h
theorem Gt {t:TypeId} {n:Nat} {xs:List Value} (h:w.ownsRow 0 t 1 v n xs) {g:Nat} (hg:v.ownBlock=I g) {i:Nat} {u:Value} (hi:xs[i]? =I u):w.cell? ⟨g,i,O⟩=I u:=by
 have:=h.cells hg i u hi
 rwa [show ((⟨g,0,O⟩:Addr).add i)=⟨g,i,O⟩ by unfold Addr.add;split <;> simp_all] at this
theorem Li {t:TypeId} {g n cap m:Nat} {xs:List Value} (h:w.ownsRow 0 t 1 (L (I ⟨g,0,O⟩) n cap) n xs) (hm:m<=n):w.ownsRow 0 t 1 (L (I ⟨g,0,O⟩) m cap) m (xs.take m):=by
 rcases h with ⟨hl,⟨hv,_⟩|⟨g',cap',cur,hv,hb,hgg,h1,h2,h3,h4⟩⟩
 ·simp at hv
 ·simp at hv;obtain ⟨rfl,rfl⟩:=hv;refine ⟨by simp;omega,.inr ⟨g,cap,cur,rfl,hb,hgg,by omega,h2,h3,?_⟩⟩;rw [<-h4,List.take_take];congr 1
  omega
variable {room:Int} {xsF:List Nat}
def U1 (w:W) (sb:Nat) (v:Value) (room:Int) (xs:List Nat):Prop:=
 w.heap[sb]? =I (X #[v,U Y room] 202 (0,0))/\w.ownsRow 0 51 1 v xs.length (xs.map (Z V))
theorem U1.drewN (h:U1 w sb v room xsF) (n:Nat):U1 (w.drewN n) sb v room xsF:=⟨h.1,Hs h.2 n⟩
theorem U1.mod {S:List Nat} (h:U1 w sb v room xsF) (m:Ze S w w') (hs:sb∉S) (hu:∀ g,v.ownBlock=I g->g∉S):U1 w' sb v room xsF:=⟨m.at h.1 hs,Uv h.2 m hu⟩
theorem U1.ne (h:U1 w sb v room xsF) {g:Nat} (hg:v.ownBlock=I g):g≠sb:=by
 obtain ⟨cur,hc⟩:=own_ty h.2 hg;rintro rfl;rw [h.1] at hc;simp at hc
theorem U1.form (h:U1 w sb v room xsF):∃ a cap,v=L a xsF.length cap:=Zo h.2
theorem Up:(N.info? 51).map (λ i=>(i.zero,i.size,i.bytes))=I (I (Z V 0),1,8):=by kernel_rfl
theorem stk_newF (n:Int) (h0:0<=n) (h1:n<=65536) (w:W):Calls N 86 #[U Y n] w λ e w'=>∃ sb,e=R9 (E (I ⟨sb,0,O⟩))/\U1 w' sb (L O 0 0) n []/\w.heap.size<=sb/\Ze [] w w':=by
 go_enter func86,ntmps86;go_wp2;go_ret;exact ⟨_,J,⟨heap_alloc_new w (X #[L O 0 0,U Y n] 202),World.ownsRow_nil _ _ _ _⟩,Nat.le_refl _,(Zr_ _ _).alloc _⟩
theorem stk_lenF (h:U1 w sb v room xsF):Calls N 159 #[E (I ⟨sb,0,O⟩)] w λ e w'=>e=R9 (U Y xsF.length)/\w'=w:=by
 obtain ⟨a,cap,rfl⟩:=h.form;have r0:w.cell? ⟨sb,0,O⟩=I (L a xsF.length cap):=Za h.1 J;go_enter func159,ntmps159;go_wp2;go_ret;exact ⟨J,J⟩
theorem O5 (h:U1 w sb v room xsF) (hl:(xsF.length:Int) < room) (hr:room<=65536) (x:Nat):Calls N 168 #[E (I ⟨sb,0,O⟩),Z V x] w λ e w'=>
  e=R9 (U Y 0)/\∃ v',U1 w' sb v' room (xsF++[x])/\Jn w v v'/\Ze (sb :: v.ownBlock.toList) w w':=by
 obtain ⟨a,cap,rfl⟩:=h.form;have r0:w.cell? ⟨sb,0,O⟩=I (L a xsF.length cap):=Za h.1 J;have r1:w.cell? ⟨sb,1,O⟩=I (U Y room):=Za h.1 J;have hb:((xsF.length:Int)==room)=false:=by simp;omega
 have hsl:=B9 h.1;go_enter func168,ntmps168;go_wp2_with fail;go_quiet (fail);have h1:=h.drewN nq;have D1:Ze (sb :: (L a xsF.length cap).ownBlock.toList) w (w.drewN nq):=(Zr_ _ _).drewN nq;have z1:Hid (w.heap.size<=(w.drewN nq).heap.size):=Zh_ (Nat.le_refl _);clear r0 r1 h;generalize w.drewN nq=w1 at *
 have r0:w1.cell? ⟨sb,0,O⟩=I (L a xsF.length cap):=Za h1.1 J;obtain ⟨i0,hi0,hz0,hz1,hz2⟩:=info_parts Up;go_wp2_with (at_builtin;refine wpList_append_own_at _ J _ _ 24 J 0 51 i0 (Z V 0) 1 8 underlying24 hi0 hz0 hz1 hz2 J (by decide) _ _ _ J (h1.2.alloc _) ⟨w1.heap.size,0,O⟩ 1 1 [Z V x] J J ?CA ?CB ?CC ?CD ?CE ?_)
 case CA=>exact cell_one_new _ _ _
 case CB=>intro u hu;simp at hu;subst hu;rfl
 case CC=>unfold maxLen;omega
 case CD=>omega
 case CE=>exact Nat.zero_le _
 intro u' w5 ho5 hg5 _ hat;obtain ⟨g5,cap5,rfl,-⟩:=Ya ho5 (by omega);have hne:∀ g,(L a xsF.length cap).ownBlock=I g->g≠sb:=λ g hg=>h1.ne hg;have hs1:=B9 h1.1;have K5:w5.heap[sb]? =I (X #[L a xsF.length cap,U Y room] 202 (0,0)):=(hg5.block sb (by simp;omega) (λ e=>hne sb e.symm J)).trans (Zf _ h1.1);have D5:Ze (sb :: (L a xsF.length cap).ownBlock.toList) w w5:=(D1.alloc _).grown hg5 (λ g hg=>.inl (by simp [hg]));have hg5':g5≠sb:=by
  rcases hat with e|e
  ·exact hne g5 e.symm
  ·simp [Value.ownBlock] at e;omega
 have hon:Jn w (L a xsF.length cap) (L (I ⟨g5,0,O⟩) (xsF.length+1) cap5):=by
  rcases hat with e|e
  ·exact .inl e
  ·exact .inr ⟨_,e,by have:=z1.out;first|omega|(rw [World.size_alloc];omega)⟩
 have ho5':w5.ownsRow 0 51 1 (L (I ⟨g5,0,O⟩) (xsF.length+1) cap5) (xsF++[x]).length ((xsF++[x]).map (Z V)):=by simpa using ho5
 have HON:=Zh_ hon;have HG:=Zh_ hg5';have z8:=Zb (i:=0) K5;have r8:=Za (i:=0) K5 J;clear hne hat hon hg5 ho5 h1 D1 r0 hg5';go_wp2_with fail;go_ret;refine ⟨J,_,⟨Zd (i:=0) _ K5,Uv ho5' ((Zr_ [sb] _).setCell ⟨sb,0,O⟩ _ (.inl (by simp))) (λ g hg=>?_)⟩,HON.out,D5.setCell _ _ (.inl (by simp))⟩;simp [Value.ownBlock] at hg;subst hg;simp [HG.out]
theorem V5 (h:U1 w sb v room xsF) (n:Nat) (hn:n < xsF.length) (hb:xsF.length<=65536):Calls N 175 #[E (I ⟨sb,0,O⟩),U Y n] w λ e w'=>e=R9 (.tuple #[Z V (xsF.getD (xsF.length - 1 - n) 0),U Y 0])/\∃ k,w'=w.drewN k:=by
 obtain ⟨g,cap,rfl,-⟩:=Ya h.2 (by omega);have r0:w.cell? ⟨sb,0,O⟩=I (L (I ⟨g,0,O⟩) xsF.length cap):=Za h.1 J;obtain ⟨i,hi⟩:∃ i,i=xsF.length - 1 - n:=⟨_,J⟩;rw [<-hi];have gi:w.cell? ⟨g,i,O⟩=I (Z V (xsF.getD i 0)):=Gt h.2 J (by simp [show i < xsF.length by omega]);obtain ⟨y,hy⟩:∃ y,y=xsF.getD i 0:=⟨_,J⟩;rw [<-hy] at gi ⊢
 have hii:(xsF.length:Int) - 1 - (n:Int)=(i:Int):=by omega
 have hil:i < xsF.length:=by omega
 have hw1:IntKind.i64.wrap ((xsF.length:Int) - 1)=(xsF.length:Int) - 1:=IntWalk.i64_in _ (by omega);have hw2:IntKind.i64.wrap ((xsF.length:Int) - 1 - (n:Int))=(i:Int):=by rw [hii];exact IntWalk.i64_in _ (by omega)
 have b1:(0:Int)<=(i:Int):=by omega
 have b2:(i:Int) < (xsF.length:Int):=by omega
 have hd:decide ((xsF.length:Int)<=(n:Int))=false:=D9 (by omega);have hd0:decide ((n:Int) < 0)=false:=D9 (by omega);clear h hy hi;go_enter func175,ntmps175;go_wp2_with fail;go_quiet (fail);go_wp2;go_ret2;exact ⟨J,_,J⟩
theorem Cw {x:Nat} (h:U1 w sb v room (xsF++[x])) (hb:xsF.length<=65535):Calls N 177 #[E (I ⟨sb,0,O⟩)] w λ e w'=>
  e=R9 (.tuple #[Z V x,U Y 0])/\∃ v',U1 w' sb v' room xsF/\v'.ownBlock=v.ownBlock/\Ze [sb] w w':=by
 have hx:(xsF++[x]).getD ((xsF++[x]).length - 1 - 0) 0=x:=by simp
 have HX:=Zh_ hx;clear hx;go_enter func177,ntmps177;go_wp2_with fail;refine (V5 h 0 (by simp) (by simp;omega)).mono ?_;rintro e w1 ⟨rfl,k,rfl⟩;rw [HX.out];have h1:=h.drewN k;have D1:Ze [sb] w (w.drewN k):=(Zr_ _ _).drewN k;clear h;generalize w.drewN k=w1 at *
 obtain ⟨g,cap,rfl,-⟩:=Ya h1.2 (by simp);have hlen:(xsF++[x]).length=xsF.length+1:=by simp
 have ho:=h1.2;have hK:=h1.1;have hgs:=h1.ne (g:=g) J;rw [hlen] at ho hK;obtain ⟨n,hn⟩:∃ n,n=xsF.length:=⟨_,J⟩;rw [<-hn] at ho hK hb;have r0:=Za (i:=0) hK J;have z0:=Zb (i:=0) hK;have hcap:n+1<=cap/\cap<=maxLen:=by
  rcases ho.2 with ⟨hv,_⟩|⟨g',cap',cur,hv,_,_,h1,h2,_⟩
  ·simp at hv
  ·simp at hv;obtain ⟨_,rfl⟩:=hv;exact ⟨h1,h2⟩
 obtain ⟨hc1,hc2⟩:=hcap;unfold maxLen at hc2;have hw1:IntKind.i64.wrap (((n+1:Nat):Int) - 1)=(n:Int):=by rw [show ((n+1:Nat):Int) - 1=n by omega];exact IntWalk.i64_in _ (by omega)
 have b1:(0:Int)<=(n:Int):=by omega
 have b2:(n:Int)<=(cap:Int):=by omega
 have HN:=Zh_ hn;have HO:=Zh_ ho;have HK:=Zh_ hK;clear h1 hlen hn ho hK;go_wp2_with fail;go_region
 all_goals
  go_wp2;go_ret2;have ht:=Li HO.out (m:=n) (by omega);have he:((xsF++[x]).map (Z V)).take n=xsF.map (Z V):=by rw [HN.out];simp
  rw [he] at ht;refine ⟨J,_,⟨Zd (i:=0) _ HK.out,?_⟩,J,(D1.setCell _ _ (.inl (by simp))).drew⟩;rw [<-HN.out];exact Uv ht (((Zr_ [sb] w1).setCell ⟨sb,0,O⟩ _ (.inl (by simp))).drew) (λ q hq=>by simp [Value.ownBlock] at hq;subst hq;simp [hgs])
variable {room:Int} {xsI:List Int}
def U0 (w:W) (sb:Nat) (v:Value) (room:Int) (xs:List Int):Prop:=
 w.heap[sb]? =I (X #[v,U Y room] 204 (0,0))/\w.ownsRow 0 3 1 v xs.length (xs.map (Value.int .i64))
theorem U0.drewN (h:U0 w sb v room xsI) (n:Nat):U0 (w.drewN n) sb v room xsI:=⟨h.1,Hs h.2 n⟩
theorem U0.mod {S:List Nat} (h:U0 w sb v room xsI) (m:Ze S w w') (hs:sb∉S) (hu:∀ g,v.ownBlock=I g->g∉S):U0 w' sb v room xsI:=⟨m.at h.1 hs,Uv h.2 m hu⟩
theorem U0.ne (h:U0 w sb v room xsI) {g:Nat} (hg:v.ownBlock=I g):g≠sb:=by
 obtain ⟨cur,hc⟩:=own_ty h.2 hg;rintro rfl;rw [h.1] at hc;simp at hc
theorem U0.form (h:U0 w sb v room xsI):∃ a cap,v=L a xsI.length cap:=Zo h.2
theorem stk_newI (n:Int) (h0:0<=n) (h1:n<=65536) (w:W):Calls N 87 #[U Y n] w λ e w'=>∃ sb,e=R9 (E (I ⟨sb,0,O⟩))/\U0 w' sb (L O 0 0) n []/\w.heap.size<=sb/\Ze [] w w':=by
 go_enter func87,ntmps87;go_wp2;go_ret;exact ⟨_,J,⟨heap_alloc_new w (X #[L O 0 0,U Y n] 204),World.ownsRow_nil _ _ _ _⟩,Nat.le_refl _,(Zr_ _ _).alloc _⟩
theorem stk_lenI (h:U0 w sb v room xsI):Calls N 160 #[E (I ⟨sb,0,O⟩)] w λ e w'=>e=R9 (U Y xsI.length)/\w'=w:=by
 obtain ⟨a,cap,rfl⟩:=h.form;have r0:w.cell? ⟨sb,0,O⟩=I (L a xsI.length cap):=Za h.1 J;go_enter func160,ntmps160;go_wp2;go_ret;exact ⟨J,J⟩
theorem O4 (h:U0 w sb v room xsI) (hl:(xsI.length:Int) < room) (hr:room<=65536) (x:Int):Calls N 165 #[E (I ⟨sb,0,O⟩),U Y x] w λ e w'=>
  e=R9 (U Y 0)/\∃ v',U0 w' sb v' room (xsI++[x])/\Jn w v v'/\Ze (sb :: v.ownBlock.toList) w w':=by
 obtain ⟨a,cap,rfl⟩:=h.form;have r0:w.cell? ⟨sb,0,O⟩=I (L a xsI.length cap):=Za h.1 J;have r1:w.cell? ⟨sb,1,O⟩=I (U Y room):=Za h.1 J;have hb:((xsI.length:Int)==room)=false:=by simp;omega
 have hsl:=B9 h.1;go_enter func165,ntmps165;go_wp2_with fail;go_quiet (fail);have h1:=h.drewN nq;have D1:Ze (sb :: (L a xsI.length cap).ownBlock.toList) w (w.drewN nq):=(Zr_ _ _).drewN nq;have z1:Hid (w.heap.size<=(w.drewN nq).heap.size):=Zh_ (Nat.le_refl _);clear r0 r1 h;generalize w.drewN nq=w1 at *
 have r0:w1.cell? ⟨sb,0,O⟩=I (L a xsI.length cap):=Za h1.1 J;obtain ⟨i0,hi0,hz0,hz1,hz2⟩:=info_parts W1;go_wp2_with (at_builtin;refine wpList_append_own_at _ J _ _ 34 J 0 3 i0 (U Y 0) 1 8 underlying34 hi0 hz0 hz1 hz2 J (by decide) _ _ _ J (h1.2.alloc _) ⟨w1.heap.size,0,O⟩ 1 1 [U Y x] J J ?CA ?CB ?CC ?CD ?CE ?_)
 case CA=>exact cell_one_new _ _ _
 case CB=>intro u hu;simp at hu;subst hu;rfl
 case CC=>unfold maxLen;omega
 case CD=>omega
 case CE=>exact Nat.zero_le _
 intro u' w5 ho5 hg5 _ hat;obtain ⟨g5,cap5,rfl,-⟩:=Ya ho5 (by omega);have hne:∀ g,(L a xsI.length cap).ownBlock=I g->g≠sb:=λ g hg=>h1.ne hg;have hs1:=B9 h1.1;have K5:w5.heap[sb]? =I (X #[L a xsI.length cap,U Y room] 204 (0,0)):=(hg5.block sb (by simp;omega) (λ e=>hne sb e.symm J)).trans (Zf _ h1.1);have D5:Ze (sb :: (L a xsI.length cap).ownBlock.toList) w w5:=(D1.alloc _).grown hg5 (λ g hg=>.inl (by simp [hg]));have hg5':g5≠sb:=by
  rcases hat with e|e
  ·exact hne g5 e.symm
  ·simp [Value.ownBlock] at e;omega
 have hon:Jn w (L a xsI.length cap) (L (I ⟨g5,0,O⟩) (xsI.length+1) cap5):=by
  rcases hat with e|e
  ·exact .inl e
  ·exact .inr ⟨_,e,by have:=z1.out;first|omega|(rw [World.size_alloc];omega)⟩
 have ho5':w5.ownsRow 0 3 1 (L (I ⟨g5,0,O⟩) (xsI.length+1) cap5) (xsI++[x]).length ((xsI++[x]).map (Value.int .i64)):=by simpa using ho5
 have HON:=Zh_ hon;have HG:=Zh_ hg5';have z8:=Zb (i:=0) K5;have r8:=Za (i:=0) K5 J;clear hne hat hon hg5 ho5 h1 D1 r0 hg5';go_wp2_with fail;go_ret;refine ⟨J,_,⟨Zd (i:=0) _ K5,Uv ho5' ((Zr_ [sb] _).setCell ⟨sb,0,O⟩ _ (.inl (by simp))) (λ g hg=>?_)⟩,HON.out,D5.setCell _ _ (.inl (by simp))⟩;simp [Value.ownBlock] at hg;subst hg;simp [HG.out]
theorem stk_badI (h:U0 w sb v room xsI) (n:Int) (hn:n < 0\/(xsI.length:Int)<=n):Calls N 178 #[E (I ⟨sb,0,O⟩),U Y n] w λ e w'=>e=R9 (.tuple #[U Y 0,U Y 41])/\w'=w:=by
 obtain ⟨a,cap,rfl⟩:=h.form;have r0:w.cell? ⟨sb,0,O⟩=I (L a xsI.length cap):=Za h.1 J;clear h
 by_cases h0:n < 0
 ·go_enter func178,ntmps178;go_wp2;go_ret2;exact ⟨J,J⟩
 ·have h1:(xsI.length:Int)<=n:=by omega
  have hd:decide ((xsI.length:Int)<=n)=true:=decide_eq_true h1;have hd0:decide (n < 0)=false:=D9 h0;go_enter func178,ntmps178;go_wp2;go_ret2;exact ⟨J,J⟩
theorem O7 (h:U0 w sb v room xsI) (n:Nat) (hn:n < xsI.length) (hb:xsI.length<=65536):Calls N 178 #[E (I ⟨sb,0,O⟩),U Y n] w λ e w'=>e=R9 (.tuple #[U Y (xsI.getD (xsI.length - 1 - n) 0),U Y 0])/\∃ k,w'=w.drewN k:=by
 obtain ⟨g,cap,rfl,-⟩:=Ya h.2 (by omega);have r0:w.cell? ⟨sb,0,O⟩=I (L (I ⟨g,0,O⟩) xsI.length cap):=Za h.1 J;obtain ⟨i,hi⟩:∃ i,i=xsI.length - 1 - n:=⟨_,J⟩;rw [<-hi];have gi:w.cell? ⟨g,i,O⟩=I (U Y (xsI.getD i 0)):=Gt h.2 J (by simp [show i < xsI.length by omega]);obtain ⟨y,hy⟩:∃ y,y=xsI.getD i 0:=⟨_,J⟩;rw [<-hy] at gi ⊢
 have hii:(xsI.length:Int) - 1 - (n:Int)=(i:Int):=by omega
 have hil:i < xsI.length:=by omega
 have hw1:IntKind.i64.wrap ((xsI.length:Int) - 1)=(xsI.length:Int) - 1:=IntWalk.i64_in _ (by omega);have hw2:IntKind.i64.wrap ((xsI.length:Int) - 1 - (n:Int))=(i:Int):=by rw [hii];exact IntWalk.i64_in _ (by omega)
 have b1:(0:Int)<=(i:Int):=by omega
 have b2:(i:Int) < (xsI.length:Int):=by omega
 have hd:decide ((xsI.length:Int)<=(n:Int))=false:=D9 (by omega);have hd0:decide ((n:Int) < 0)=false:=D9 (by omega);clear h hy hi;go_enter func178,ntmps178;go_wp2_with fail;go_quiet (fail);go_wp2;go_ret2;exact ⟨J,_,J⟩
theorem O6 (h:U0 w sb v room []):Calls N 166 #[E (I ⟨sb,0,O⟩)] w λ e w'=>e=R9 (.tuple #[U Y 0,U Y 41])/\w'=w:=by
 go_enter func166,ntmps166;go_wp2_with fail;refine (stk_badI h 0 (.inr (by simp))).mono ?_;rintro e w1 ⟨rfl,hw1⟩;have hw1':=hw1.symm;subst hw1';go_wp2;go_ret2;exact ⟨J,J⟩
theorem stk_popI {x:Int} (h:U0 w sb v room (xsI++[x])) (hb:xsI.length<=65535):Calls N 166 #[E (I ⟨sb,0,O⟩)] w λ e w'=>
  e=R9 (.tuple #[U Y x,U Y 0])/\∃ v',U0 w' sb v' room xsI/\v'.ownBlock=v.ownBlock/\Ze [sb] w w':=by
 have hx:(xsI++[x]).getD ((xsI++[x]).length - 1 - 0) 0=x:=by simp
 have HX:=Zh_ hx;clear hx;go_enter func166,ntmps166;go_wp2_with fail;refine (O7 h 0 (by simp) (by simp;omega)).mono ?_;rintro e w1 ⟨rfl,k,rfl⟩;rw [HX.out];have h1:=h.drewN k;have D1:Ze [sb] w (w.drewN k):=(Zr_ _ _).drewN k;clear h;generalize w.drewN k=w1 at *
 obtain ⟨g,cap,rfl,-⟩:=Ya h1.2 (by simp);have hlen:(xsI++[x]).length=xsI.length+1:=by simp
 have ho:=h1.2;have hK:=h1.1;have hgs:=h1.ne (g:=g) J;rw [hlen] at ho hK;obtain ⟨n,hn⟩:∃ n,n=xsI.length:=⟨_,J⟩;rw [<-hn] at ho hK hb;have r0:=Za (i:=0) hK J;have z0:=Zb (i:=0) hK;have hcap:n+1<=cap/\cap<=maxLen:=by
  rcases ho.2 with ⟨hv,_⟩|⟨g',cap',cur,hv,_,_,h1,h2,_⟩
  ·simp at hv
  ·simp at hv;obtain ⟨_,rfl⟩:=hv;exact ⟨h1,h2⟩
 obtain ⟨hc1,hc2⟩:=hcap;unfold maxLen at hc2;have hw1:IntKind.i64.wrap (((n+1:Nat):Int) - 1)=(n:Int):=by rw [show ((n+1:Nat):Int) - 1=n by omega];exact IntWalk.i64_in _ (by omega)
 have b1:(0:Int)<=(n:Int):=by omega
 have b2:(n:Int)<=(cap:Int):=by omega
 have HN:=Zh_ hn;have HO:=Zh_ ho;have HK:=Zh_ hK;clear h1 hlen hn ho hK;go_wp2_with fail;go_region
 all_goals
  go_wp2;go_ret2;have ht:=Li HO.out (m:=n) (by omega);have he:((xsI++[x]).map (Value.int .i64)).take n=xsI.map (Value.int .i64):=by rw [HN.out];simp
  rw [he] at ht;refine ⟨J,_,⟨Zd (i:=0) _ HK.out,?_⟩,J,(D1.setCell _ _ (.inl (by simp))).drew⟩;rw [<-HN.out];exact Uv ht (((Zr_ [sb] w1).setCell ⟨sb,0,O⟩ _ (.inl (by simp))).drew) (λ q hq=>by simp [Value.ownBlock] at hq;subst hq;simp [hgs])
end
section
attribute [local go_sem] Zi
def hold (v:Value):Option (DataW Value×List MemPlace):=I (.held v,[])
def Kq {α:Type} (f:Int->Option α) (k:Int) (v:α):Int->Option α:=λ i=>if i=k then I v else f i
def Vg (w:W) (b n:Nat) (f:Int->Option Value):Prop:=
 ∃ D:DataW Value,w.ownsMap N 3 hold b n D/\Maps.IsMap D/\∀ k,(Lit.int .i64 k).wf=true->Maps.has D (.int .i64 k)=(f k).isSome/\∀ z,D.atKey (.int .i64 k) (.held z)=.held ((f k).getD z)
variable {w w':W} {b n:Nat} {f:Int->Option Value}
theorem Vg.lt (h:Vg w b n f):b < w.heap.size:=by obtain ⟨D,h1,_⟩:=h;exact h1.lt
theorem Vg.mod {S:List Nat} (h:Vg w b n f) (m:Ze S w w') (hb:b∉S):Vg w' b n f:=by
 obtain ⟨D,⟨es,cl,h1,h2⟩,h3⟩:=h;exact ⟨D,⟨es,cl,m.at h1 hb,h2⟩,h3⟩
theorem Vg.drewN (h:Vg w b n f) (k:Nat):Vg (w.drewN k) b n f:=h
theorem Vg.alloc (h:Vg w b n f) (o:Obj):Vg (w.alloc o) b n f:=h.mod ((Zr_ [] _).alloc o) (by simp)
theorem Vg.mono (h:Vg w b n f) {n':Nat} (hn:n<=n'):Vg w b n' f:=by
 obtain ⟨D,h1,h3⟩:=h;exact ⟨D,h1.mono hn,h3⟩
theorem Vg.made (w:W):Vg (w.alloc (.map #[] 0)) w.heap.size 0 (λ _=>O):=
 ⟨.map [],World.ownsMap_made _ _ _ _,Maps.isMap_empty,λ _ _=>⟨J,λ _=>J⟩⟩
theorem Nz:Maps.Keyed N 3:=Maps.int_keyed underlying3
theorem key3 {k:Int} (h:(Lit.int .i64 k).wf=true):keyOf N 3 (.int .i64 k)=I (.int .i64 k):=Maps.keyOf_int_mk underlying3 h
theorem Vg.look (h:Vg w b n f) {t e:TypeId} (ht:N.underlying t=I (.map 3 e)) {z:Value} (hz:∀ w,(zeroValue e).run N w=.ok z w) {k:Int} (hk:(Lit.int .i64 k).wf=true):
  (Instr.lookup t (.map (I b)) (.int .i64 k) true).run N w=.ok (.tuple #[(f k).getD z,.bool (f k).isSome]) w:=by
 obtain ⟨D,h1,_,h2⟩:=h;obtain ⟨v,ps,hr,hv⟩:=h1.look_ok Nz ht (hz w) J (key3 hk);obtain ⟨a1,a2⟩:=h2 k hk;rw [a2] at hv;simp [hold] at hv;rw [hr,a1,hv.1]
theorem Vg.get (h:Vg w b n f) {t e:TypeId} (ht:N.underlying t=I (.map 3 e)) {z:Value} (hz:∀ w,(zeroValue e).run N w=.ok z w) {k:Int} (hk:(Lit.int .i64 k).wf=true):
  (Instr.lookup t (.map (I b)) (.int .i64 k) false).run N w=.ok ((f k).getD z) w:=by
 obtain ⟨D,h1,_,h2⟩:=h;obtain ⟨v,ps,hr,hv⟩:=h1.lookup Nz ht (hz w) J (key3 hk);obtain ⟨a1,a2⟩:=h2 k hk;rw [a2] at hv;simp [hold] at hv;rw [hr,hv.1]
theorem Vg.set (h:Vg w b n f) {t e:TypeId} (ht:N.underlying t=I (.map 3 e)) (hn:n < maxLen) {k:Int} (hk:(Lit.int .i64 k).wf=true) (v:Value):
  ∃ w',(Instr.mapUpdate t (.map (I b)) (.int .i64 k) v).run N w=.ok () w'/\Vg w' b (if (f k).isSome then n else n+1) (Kq f k v)/\Ze [b] w w':=by
 obtain ⟨D,h1,h0,h2⟩:=h;obtain ⟨w',hr,hv,hg⟩:=h1.update Nz ht hn (key3 hk) (show hold v=I (.held v,[]) from J);have hkl:WideAt.IsKeyLit (.int .i64 k):=(Nz).key (key3 hk);have hv':w'.ownsMap N 3 hold b (if (f k).isSome then n else n+1) (D.put (.int .i64 k) (.held v)):=by
  obtain ⟨es,cl,e1,e2,e3,e4⟩:=hv;refine ⟨es,cl,e1,e2,?_,e4⟩;have hz:Maps.size (D.put (.int .i64 k) (.held v))=es.size:=by rw [e4];simp [Maps.size,length_sorted]
  rw [<-hz,Maps.size_put (h1.tidy Nz),(h2 k hk).1];have:=h1.size_le;split <;> omega
 refine ⟨w',hr,⟨_,hv',h0.put _ _,λ i hi=>?_⟩,⟨hg.os,hg.tape,hg.output,hg.size,λ k hk hs=>hg.block k hk (by simpa [eq_comm] using hs)⟩⟩;unfold Kq
 by_cases hik:i=k
 ·subst hik;rw [P9 rfl];exact ⟨Maps.has_put_same h0 hkl _,λ z=>Maps.atKey_put_same h0 hkl _ _⟩
 ·rw [Q9 hik];have hne:(Lit.int .i64 i)≠.int .i64 k:=by simpa using hik
  obtain ⟨a1,a2⟩:=h2 i hi;exact ⟨(Maps.has_put_other hne _).trans a1,λ z=>(Maps.atKey_put_other hne _ _).trans (a2 z)⟩
end
end Go.Proofs.YtkhonmhnchdpkaaGreat
