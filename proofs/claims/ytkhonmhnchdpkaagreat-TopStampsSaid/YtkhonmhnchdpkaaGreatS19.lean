/- A part of the proof; no condition. -/
import Derived.Test.YtkhonmhnchdpkaaGreatS08
import Derived.Test.YtkhonmhnchdpkaaGreatS16
import Derived.Test.YtkhonmhnchdpkaaGreatS18
set_option maxRecDepth 100000
set_option maxHeartbeats 40000000
namespace Go.Proofs.YtkhonmhnchdpkaaGreat
open Go.RowKit _root_.Go.Proofs.Tryz
section
attribute [local go_sem] Zi
def FL (w:World) (v:Value) (xs:List Nat):Prop:=
 ∃ a cap,v=.slice a xs.length cap∧(xs=[]∨∃ g cs,a=some ⟨g,0,none⟩∧w.heap[g]? =some (.cells cs 51 (0,0))∧∀ i,i < xs.length→cs[i]? =some (.float .f64 (xs.getD i 0)))
def Ud (s:Zj) (p4:Int) (xs:List Nat):Nat→Zj
 |0=>s
 |k+1=>(((Ud s p4 xs k).poke (p4+3 * k) 0).poke (p4+3 * k+1) (Zu (xs.getD k 0):Int)).poke (p4+3 * k+2) 0
theorem Hl (s:Zj) (p4:Int) (xs:List Nat):∀ k,(Ud s p4 xs k).ws.length=s.ws.length
 |0=>rfl
 |k+1=>by rw [Ud,H6,H6,H6,Hl s p4 xs k]
def Tv (s:Zj) (p4:Int) (xs:List Nat):Int:=if 256 < xs.length then 2 else if xs.length=0 then 0 else if p4 < 0∨4096 < p4∨(s.ws.length:Int) < p4+3 * xs.length then 30 else 0
def Vd (s:Zj) (p4:Int) (xs:List Nat):Zj:=if Tv s p4 xs=0 then Ud s p4 xs xs.length else s
variable {a b:Nat} {s:Zj} {w:World} {xs:List Nat}
theorem Tu (hM:Zh 137 w a b s) (p0 p1 p2 p3 p4 p5:Int) (v:Value) (hv:FL w v xs) (h1:xs.length=0):
  Calls Tryz.prog 41 #[.pointer (some ⟨a,0,none⟩),.agg #[.int .i64 p0,.int .i64 p1,.int .i64 p2,.int .i64 p3,.int .i64 p4,.int .i64 p5],v] w fun e w'=>e=.returned (.int .i64 0)∧Zh 137 w' a b s∧Ze [a,b] w w':=by
 obtain ⟨fa,cap,rfl,hf⟩:=hv
 rw [h1]
 clear hf h1
 go_enter func41,ntmps41
 go_wp2
 go_ret
 exact ⟨rfl,hM.alloc _,(Zr_ _ _).alloc _⟩
end
section
def Ux (c0 c1 c2 c3 tag:Int) (code:List Xf) (args:List Nat):Zl where
 c0:=c0
 c1:=c1
 c2:=c2
 c3:=c3
 tag:=tag
 code:=code
 bad:=!Xs tag code
 args:=fun i=>if i < args.length then Zu (args.getD i 0) else 0
 locals:=fun _=>0
 nums:=[]
 calls:=[]
 place:=0
 used:=0
 waits:=false
 cell:=0
 how:=0
 ecode:=0
 eerr:=0
 out:=[]
 reads:=[]
 buf:=⟨[],fun _=>none,c3⟩
structure Z5 where
 (c0 c1:Int)
 m:Zl
 tag:Int
 args:List Nat
 (part ticket stamp number:Int)
 was:List Nat
 scan:Option Z1
 back:Option Xu
 written:Nat
structure Yk where
 (c0 c1:Int)
 m:Zl
 tag:Int
 args:List Nat
 (part thread:Int)
 com:Yf
 read:Option Y6
def Yb (c1:Int):Int:=3+c1
def Zw (c0 c1:Int):Int:=3+c1+3 * c0
def Bi (c0 c1 st:Int):Z1:=⟨0,1,2,3,Yb c1,Zw c0 c1,c1,st,0,0⟩
def X0 (c0 c1 c st:Int):Y6:=⟨0,1,2,3,Yb c1,Zw c0 c1,c,st,0,0,0,0,false⟩
def wrOf (c0 c1 c:Int) (x:Nat) (ve:Int) (y:Nat):Xu:=⟨0,1,2,3,Yb c1,Zw c0 c1,c,(Zu x:Int),ve,(Zu y:Int),0⟩
def Pg (c0 c1 th:Int):Yf:=⟨0,1,2,3,Yb c1,Zw c0 c1,th,0,0,0⟩
def u64 (n:Int):Int:=IntKind.u64.wrap n
def Um (c0 c1 c2 c3 tag:Int) (code:List Xf) (args:List Nat):Z5:=
 ⟨c0,c1,Ux c0 c1 c2 c3 tag code args,tag,args.map Zu,1,0,0,0,[],none,none,0⟩
def Un (c0 c1 c2 c3 th tag:Int) (code:List Xf) (args:List Nat):Yk:=
 ⟨c0,c1,Ux c0 c1 c2 c3 tag code args,tag,args.map Zu,1,th,Pg c0 c1 th,none⟩
def Z5.runs (x:Z5) (s:Zj) (v:Nat):Z5×Zj:=
 let m:=(x.m.step v).1
 let a:=(x.m.step v).2
 if a.kind=1 then ({x with m:=m.give (s.nowV (Yb x.c1) a.cell)},s.cellM (Yb x.c1) a.cell 1)
 else if a.kind=3∧a.first=true then ({x with m:=m,was:=x.was++[s.nowV (Yb x.c1) a.cell]},s.cellM (Yb x.c1) a.cell 1)
 else if a.kind=4∧m.how=1 then ({x with m:=m,scan:=some (Bi x.c0 x.c1 x.stamp),part:=5},s)
 else if a.kind=4 then ({x with m:=m,part:=8},s)
 else ({x with m:=m},s)
def Z5.scans (x:Z5) (s:Zj):Z5×Zj:=
 match x.scan with
 |none=>(x,s)
 |some c=>({x with scan:=some (c.next s),part:=if c.over s=true then (if 0 < x.was.length then 6 else 7) else 5},c.mem s)
def Z5.wr (x:Z5):Xu:=
 match x.back with
 |some r=>r
 |none=>wrOf x.c0 x.c1 (x.m.buf.all.getD x.written (0,0)).1 (x.was.getD x.written 0) (u64 (x.stamp+1)) (x.m.buf.all.getD x.written (0,0)).2
def Z5.wrote (x:Z5) (r:Xu) (s:Zj):Z5:=
 if r.over s=true then {x with back:=none,written:=x.written+1} else {x with back:=some (r.next s)}
def Z5.ended (x:Z5):Z5:=if x.written=x.was.length then {x with part:=7} else x
def Z5.writes (x:Z5) (s:Zj):Z5×Zj:=((x.wrote x.wr s).ended,x.wr.mem s)
def Z5.step (x:Z5) (s:Zj) (v:Nat):Z5×Zj:=
 if x.part=1 then ({x with ticket:=s.got 0,part:=2},s.add 0 1)
 else if x.part=2 then ({x with part:=if s.look 1 x.ticket=true then 3 else 2},s.load 1)
 else if x.part=3 then ({x with stamp:=s.got 2,part:=4},s.load 2)
 else if x.part=4 then x.runs s v
 else if x.part=5 then x.scans s
 else if x.part=6 then x.writes s
 else if x.part=7 then ({x with number:=wrap64 (u64 (x.stamp+1)),part:=8},s.store 2 (u64 (x.stamp+1)))
 else ({x with part:=9},s.store 1 (u64 (x.ticket+1)))
def Yk.goOn (x:Yk) (r:Y6) (s:Zj):Yk×Zj:=
 (if r.over s=true then {x with m:=x.m.give (r.next s).value,read:=none} else {x with read:=some (r.next s)},r.mem s)
def Yk.run (x:Yk) (s:Zj) (v:Nat):Yk×Zj:=
 match x.read with
 |some r=>x.goOn r s
 |none=>
  if (x.m.step v).2.kind=1 then Yk.goOn {x with m:=(x.m.step v).1} (X0 x.c0 x.c1 (x.m.step v).2.cell x.com.st) s
  else ({x with m:=(x.m.step v).1,part:=if (x.m.step v).2.kind=4 then 3 else x.part},s)
def Yk.step (x:Yk) (s:Zj) (v:Nat):Yk×Zj:=
 if x.part=1 then ({x with com:=x.com.next s,part:=if x.com.over s=true then 2 else 1},x.com.mem s)
 else if x.part=2 then x.run s v
 else ({x with part:=4},s.leave 3 x.thread)
structure Z2 where
 (th no prog tag:Int)
 args:List Nat
 (mark number:Int)
 (reads writes:List (Int×Nat))
 out:List Nat
 (how ecode eerr bgn ended:Int)
def Z2.join (d told:Z2):Z2:={told with th:=d.th,no:=d.no,prog:=d.prog,bgn:=d.bgn,ended:=d.ended}
def Z5.told (x:Z5):Z2:=
 ⟨0,0,0,x.tag,x.args,if 1 < x.part then wrap64 x.ticket else -1,x.number,x.m.reads,x.m.buf.all,x.m.out,
  if x.part=9 then x.m.how else 0,if x.part=9 then x.m.ecode else 0,if x.part=9 then x.m.eerr else 0,0,0⟩
def Yk.told (x:Yk):Z2:=
 ⟨0,0,0,x.tag,x.args,if x.part=1 then -1 else wrap64 x.com.st,0,x.m.reads,x.m.buf.all,x.m.out,
  if x.part=4 then x.m.how else 0,if x.part=4 then x.m.ecode else 0,if x.part=4 then x.m.eerr else 0,0,0⟩
inductive Qt where
 |wr (x:Z5)
 |rd (x:Yk)
def Qt.step:Qt→Zj→Nat→Qt×Zj
 |.wr x,s,v=>(.wr (x.step s v).1,(x.step s v).2)
 |.rd x,s,v=>(.rd (x.step s v).1,(x.step s v).2)
def Qt.over:Qt→Bool
 |.wr x=>x.part==9
 |.rd x=>x.part==4
def Qt.told:Qt→Z2
 |.wr x=>x.told
 |.rd x=>x.told
def Qt.m:Qt→Zl
 |.wr x=>x.m
 |.rd x=>x.m
structure Wg where
 raw:Z2
 g:Option Qt
def Wg.deed (x:Wg):Z2:=match x.g with|some g=>x.raw.join g.told|none=>x.raw
structure Gc where
 calls:List (Int×List Nat)
 begun:Nat
 cur:Option Nat
def Gt:Gc:=⟨[],0,none⟩
def Gc.fin (x:Gc):Bool:=x.cur.isNone&&x.begun==x.calls.length
structure Zr where
 (c0 c1 c2 c3:Int)
 progs:List (Int×List Xf)
 mem:Zj
 ths:List Gc
 txs:List Wg
 steps:Nat
def Zr.th (s:Zr) (t:Nat):Gc:=s.ths.getD t Gt
def Zr.call (s:Zr) (t:Nat):Int×List Nat:=(s.th t).calls.getD (s.th t).begun (0,[])
def Zr.prog (s:Zr) (n:Int):Int×List Xf:=s.progs.getD n.toNat (0,[])
def Zr.newG (s:Zr) (t:Nat):Qt:=
 if (s.prog (s.call t).1).1=2 then .wr (Um s.c0 s.c1 s.c2 s.c3 (s.prog (s.call t).1).1 (s.prog (s.call t).1).2 (s.call t).2)
 else .rd (Un s.c0 s.c1 s.c2 s.c3 t (s.prog (s.call t).1).1 (s.prog (s.call t).1).2 (s.call t).2)
def Xj (t no prog bgn:Int):Z2:=⟨t,no,prog,0,[],0,0,[],[],[],0,0,0,bgn,0⟩
def Zr.begin (s:Zr) (t:Nat):Zr:=
 {s with ths:=s.ths.set t {s.th t with cur:=some s.txs.length,begun:=(s.th t).begun+1},txs:=s.txs++[⟨Xj t (s.th t).begun (s.call t).1 s.steps,some (s.newG t)⟩]}
def Zr.fire (s:Zr) (t:Nat) (v:Nat):Zr:=
 match (s.th t).cur with
 |none=>s
 |some i=>
  match s.txs[i]? with
  |some ⟨raw,some g⟩=>
   if (g.step s.mem.opened v).1.over=true then
    {s with mem:=(g.step s.mem.opened v).2,ths:=s.ths.set t {s.th t with cur:=none},txs:=s.txs.set i ⟨{raw.join (g.step s.mem.opened v).1.told with ended:=s.steps},none⟩}
   else {s with mem:=(g.step s.mem.opened v).2,txs:=s.txs.set i ⟨raw,some (g.step s.mem.opened v).1⟩}
  |_=>s
def Zr.ready (s:Zr) (t:Nat):Zr:=
 if (s.th t).cur.isNone=true then {s with steps:=s.steps+1}.begin t else {s with steps:=s.steps+1}
def Zr.step (s:Zr) (t:Nat) (v:Nat):Zr:=if (s.th t).fin=true then s else (s.ready t).fire t v
inductive V6:Zr→List Nat→Zr→Prop
 |nil (s:Zr):V6 s [] s
 |cons {s r:Zr} {t:Nat} {l:List Nat} (v:Nat) (h:V6 (s.step t v) l r):V6 s (t :: l) r
def Zr.view (s:Zr):List Z2:=s.txs.map Wg.deed
def Zr.over (s:Zr):Bool:=s.ths.all (·.fin)
def Zr.cellV (s:Zr) (i:Nat):Nat:=
 atB (s.mem.peek (Yb s.c1+3 * i)) (s.mem.peek (Yb s.c1+3 * i+1)) (s.mem.peek (Yb s.c1+3 * i+2)) (s.mem.peek 2)
def Zr.state (s:Zr):List Nat:=(List.range s.c0.toNat).map s.cellV
def Jy (c0 c1 c2 c3:Int) (start:List Nat) (progs:List (Int×List Xf)) (calls:List (List (Int×List Nat))):Zr where
 c0:=c0
 c1:=c1
 c2:=c2
 c3:=c3
 progs:=progs
 mem:=Vd (.fresh (Zw c0 c1).toNat) (Yb c1) start
 ths:=(List.range c1.toNat).map (fun t=>⟨calls.getD t [],0,none⟩)
 txs:=[]
 steps:=0
end
section
attribute [local go_sem] Zi
structure Wf (w:World) (B:List Nat) (w':World) (B':List Nat):Prop where
 md:Ze B w w'
 gr:∀ k∈B',k∈B∨w.heap.size≤k
theorem Wf.refl (w:World) (B:List Nat):Wf w B w B:=⟨Zr_ _ _,fun _ h=>.inl h⟩
theorem Wf.trans {a b c:World} {A B C:List Nat} (h:Wf a A b B) (k:Wf b B c C):Wf a A c C:=
 ⟨h.md.then k.md h.gr,fun i hi=>(k.gr i hi).elim (h.gr i) (fun hs=>.inr (Nat.le_trans h.md.size hs))⟩
theorem Wf.of {a b:World} {S B:List Nat} (m:Ze S a b) (hS:∀ k∈S,k∈B∨a.heap.size≤k):Wf a B b B:=⟨m.mono hS,fun _ h=>.inl h⟩
def Hr:Option Nat→Value
 |none=>.pointer none
 |some k=>.pointer (some ⟨k,0,none⟩)
structure WP where
 k:Nat
 p:MP
 va:Value
 vw:Value
 sc:Option Nat
 bk:Option Nat
 st:Int
 nx:Value
def Uv (q:WP) (x:Z5):Array Value:=#[q.nx,.int .i64 0,.int .i64 1,.int .i64 2,.int .i64 3,.int .i64 (Yb x.c1),.int .i64 (Zw x.c0 x.c1),.pointer (some ⟨q.p.mb,0,none⟩),.int .i64 x.c1,.int .i64 x.tag,q.va,.int .i64 x.part,.int .i64 q.st,.int .u64 x.ticket,.int .u64 x.stamp,.int .i64 x.number,q.vw,Hr q.sc,Hr q.bk,.int .i64 x.written]
def Lf (w:World):Option Nat→Option Z1→Prop
 |none,none=>True
 |some k,some c=>w.heap[k]? =some (.cells c.arr 243 (0,0))
 |_,_=>False
def Lm (w:World):Option Nat→Option Xu→Prop
 |none,none=>True
 |some k,some c=>w.heap[k]? =some (.cells c.arr 247 (0,0))
 |_,_=>False
variable {w w' w0 w1 w2:World} {p p':MP} {q q':WP} {x x':Z5} {m:Zl} {a b:Nat} {s s':Zj} {S:List Nat} {n:Value}
def WP.blocks (q:WP):List Nat:=q.k :: (q.p.blocks++(q.va.ownBlock.toList++(q.vw.ownBlock.toList++(q.sc.toList++q.bk.toList))))
structure Zv (w:World) (q:WP) (x:Z5):Prop where
 hd:w.heap[q.k]? =some (.cells (Uv q x) 161 (0,0))
 mach:Zg w q.p x.m
 args:w.ownsRow 0 51 1 q.va x.args.length (x.args.map (Value.float .f64))
 was:w.ownsRow 0 51 1 q.vw x.was.length (x.was.map (Value.float .f64))
 scan:Lf w q.sc x.scan
 back:Lm w q.bk x.back
 na:∀ g,q.va.ownBlock=some g→q.vw.ownBlock≠some g∧g∉q.p.blocks
 nw:∀ g,q.vw.ownBlock=some g→g∉q.p.blocks
theorem WP.mem {k:Nat}:k∈q.blocks↔k=q.k∨k∈q.p.blocks∨q.va.ownBlock=some k∨q.vw.ownBlock=some k∨q.sc=some k∨q.bk=some k:=by
 unfold WP.blocks
 simp [Option.mem_toList]
theorem Zg.tyB (h:Zg w p m) {k:Nat} (hk:k∈p.blocks):Xv w k∈[some 185,some 202,some 204,some 200,none,some 106,some 51,some 3,some 53]:=by
 rw [Y3] at hk
 rcases hk with rfl|rfl|rfl|rfl|rfl|hk|hk|hk|hk|hk|hk
 ·rw [h.t_mb];decide
 ·rw [h.t_nb];decide
 ·rw [h.t_kb];decide
 ·rw [h.t_bb];decide
 ·rw [h.t_pb];decide
 ·rw [h.t_vc hk];decide
 ·rw [h.t_vn hk];decide
 ·rw [h.t_vk hk];decide
 ·rw [h.t_vo hk];decide
 ·rw [h.t_vr hk];decide
 ·rw [h.t_vb hk];decide
theorem Lf.ty {o:Option Nat} {c:Option Z1} (h:Lf w o c) {k:Nat} (hk:o=some k):Xv w k=some 243:=by
 subst hk
 cases c with
 |none=>exact h.elim
 |some c=>exact Zn h
theorem Lm.ty {o:Option Nat} {c:Option Xu} (h:Lm w o c) {k:Nat} (hk:o=some k):Xv w k=some 247:=by
 subst hk
 cases c with
 |none=>exact h.elim
 |some c=>exact Zn h
theorem Lf.mod {o:Option Nat} {c:Option Z1} (h:Lf w o c) (m:Ze S w w') (hS:∀ k,o=some k→k∉S):Lf w' o c:=by
 match o,c,h with
 |none,none,_=>trivial
 |some k,some c,h=>exact m.at h (hS k rfl)
theorem Lm.mod {o:Option Nat} {c:Option Xu} (h:Lm w o c) (m:Ze S w w') (hS:∀ k,o=some k→k∉S):Lm w' o c:=by
 match o,c,h with
 |none,none,_=>trivial
 |some k,some c,h=>exact m.at h (hS k rfl)
def wTys:List (Option TypeId):=[some 161,some 185,some 202,some 204,some 200,none,some 106,some 51,some 3,some 53,some 243,some 247]
theorem Zv.tyB (h:Zv w q x) {k:Nat} (hk:k∈q.blocks):Xv w k∈wTys:=by
 rw [WP.mem] at hk
 rcases hk with rfl|hk|hk|hk|hk|hk
 ·rw [Zn h.hd];decide
 ·have:=h.mach.tyB hk
  simp only [wTys,List.mem_cons,or_false,List.not_mem_nil] at this ⊢
  rcases this with e|e|e|e|e|e|e|e|e <;> simp [e]
 ·rw [Yc h.args hk];decide
 ·rw [Yc h.was hk];decide
 ·rw [h.scan.ty hk];decide
 ·rw [h.back.ty hk];decide
theorem H4 {k:Nat} {t:TypeId} (h:Xv w k=some t):k < w.heap.size:=by
 unfold Xv at h
 split at h
 ·rename_i e;exact lt_of_block e
 ·cases h
theorem Zv.lt (h:Zv w q x) {k:Nat} (hk:k∈q.blocks):k < w.heap.size:=by
 rw [WP.mem] at hk
 rcases hk with rfl|hk|hk|hk|hk|hk
 ·exact lt_of_block h.hd
 ·exact h.mach.lt hk
 ·exact Yr h.args hk
 ·exact Yr h.was hk
 ·exact H4 (h.scan.ty hk)
 ·exact H4 (h.back.ty hk)
theorem Zv.mod (h:Zv w q x) (m:Ze S w w') (hS:∀ k∈q.blocks,k∉S):Zv w' q x:=by
 have f:∀ k,(k=q.k∨k∈q.p.blocks∨q.va.ownBlock=some k∨q.vw.ownBlock=some k∨q.sc=some k∨q.bk=some k)→k∉S:=fun k hk=>hS k (WP.mem.2 hk)
 exact ⟨m.at h.hd (f _ (.inl rfl)),h.mach.mod m (fun k hk=>f k (by simp [hk])),Zs h.args m (fun g hg=>f g (by simp [hg])),Zs h.was m (fun g hg=>f g (by simp [hg])),
  h.scan.mod m (fun g hg=>f g (by simp [hg])),h.back.mod m (fun g hg=>f g (by simp [hg])),h.na,h.nw⟩
theorem Zh.ta (h:Zh 137 w a b s):Xv w a=some 137:=Zn h.hd
theorem Zh.tb (h:Zh 137 w a b s):Xv w b=some 54:=Zn h.ws
theorem Zv.a_nin (h:Zv w q x) (hM:Zh 137 w a b s):a∉q.blocks:=fun hk=>by
 have:=h.tyB hk
 rw [hM.ta] at this
 exact absurd this (by decide)
theorem Zv.b_nin (h:Zv w q x) (hM:Zh 137 w a b s):b∉q.blocks:=fun hk=>by
 have:=h.tyB hk
 rw [hM.tb] at this
 exact absurd this (by decide)
theorem Zv.k_ne (h:Zv w q x) {g:Nat} {t:Option TypeId} (hg:Xv w g=t) (ht:t≠some 161):g≠q.k:=fun e=>ht (by rw [←hg,e];exact Zn h.hd)
theorem Zv.rest (h:Zv w q x) {g:Nat} (hg:g∈q.p.blocks∨q.va.ownBlock=some g∨q.vw.ownBlock=some g∨q.sc=some g∨q.bk=some g):g≠q.k:=by
 rintro rfl
 have tk:=Zn h.hd
 rcases hg with hg|hg|hg|hg|hg
 ·have:=h.mach.tyB hg
  rw [tk] at this
  exact absurd this (by decide)
 ·exact absurd (tk.symm.trans (Yc h.args hg)) (by decide)
 ·exact absurd (tk.symm.trans (Yc h.was hg)) (by decide)
 ·exact absurd (tk.symm.trans (h.scan.ty hg)) (by decide)
 ·exact absurd (tk.symm.trans (h.back.ty hg)) (by decide)
theorem Zv.setHd (h:Zv w q x) (m:Ze [q.k] w w') (hd:w'.heap[q.k]? =some (.cells (Uv q' x') 161 (0,0)))
  (e1:q'.k=q.k) (e2:q'.p=q.p) (e3:q'.va=q.va) (e4:q'.vw=q.vw) (e5:q'.sc=q.sc) (e6:q'.bk=q.bk)
  (f1:x'.m=x.m) (f2:x'.args=x.args) (f3:x'.was=x.was) (f4:x'.scan=x.scan) (f5:x'.back=x.back):Zv w' q' x':=by
 have ne:∀ g,(g∈q.p.blocks∨q.va.ownBlock=some g∨q.vw.ownBlock=some g∨q.sc=some g∨q.bk=some g)→g∉[q.k]:=fun g hg=>by simpa using h.rest hg
 refine ⟨by rw [e1];exact hd,?_,?_,?_,?_,?_,?_,?_⟩
 ·rw [e2,f1];exact h.mach.mod m (fun k hk=>ne k (.inl hk))
 ·rw [e3,f2];exact Zs h.args m (fun g hg=>ne g (.inr (.inl hg)))
 ·rw [e4,f3];exact Zs h.was m (fun g hg=>ne g (.inr (.inr (.inl hg))))
 ·rw [e5,f4];exact h.scan.mod m (fun g hg=>ne g (.inr (.inr (.inr (.inl hg)))))
 ·rw [e6,f5];exact h.back.mod m (fun g hg=>ne g (.inr (.inr (.inr (.inr hg)))))
 ·rw [e2,e3,e4];exact h.na
 ·rw [e2,e4];exact h.nw
theorem Zv.cell (h:Zv w q x) (i:Nat) {u:Value} (hu:(Uv q x)[i]? =some u):w.cell? ⟨q.k,i,none⟩=some u∧w.frozen? ⟨q.k,i,none⟩=false:=
 ⟨Za h.hd hu,Zb h.hd⟩
theorem Zv.machC (h:Zv w q x) (d:Zk w q.p m w'):∃ p',Zv w' {q with p:=p'} {x with m:=m}∧Hb w q.p w' p':=by
 obtain ⟨p',hm,F⟩:=d
 have nk:q.k∉q.p.blocks:=fun hk=>h.rest (.inl hk) rfl
 have old:∀ g,g < w.heap.size→g∉q.p.blocks→g∉p'.blocks:=fun g hl hg hk=>(F.gr g hk).elim hg (fun hs=>by omega)
 refine ⟨p',⟨?_,hm,?_,?_,?_,?_,?_,?_⟩,F⟩
 ·have:=F.md.at h.hd nk
  rw [this]
  unfold Uv
  rw [F.mb]
 ·exact Zs h.args F.md (fun g hg=>(h.na g hg).2)
 ·exact Zs h.was F.md (fun g hg=>h.nw g hg)
 ·exact h.scan.mod F.md (fun g hg hk=>by have:=h.mach.tyB hk;rw [h.scan.ty hg] at this;exact absurd this (by decide))
 ·exact h.back.mod F.md (fun g hg hk=>by have:=h.mach.tyB hk;rw [h.back.ty hg] at this;exact absurd this (by decide))
 ·exact fun g hg=>⟨(h.na g hg).1,old g (Yr h.args hg) (h.na g hg).2⟩
 ·exact fun g hg=>old g (Yr h.was hg) (h.nw g hg)
def Xc (w:World) (q:WP) (a b:Nat) (x:Z5) (n:Value) (s:Zj) (w':World):Prop:=
 ∃ q',Zv w' q' x∧Zh 137 w' a b s∧Wf w (a :: b :: q.blocks) w' (a :: b :: q'.blocks)∧q'.k=q.k∧q'.p.mb=q.p.mb∧q'.nx=n
theorem Xc.same (h:Zv w q x) (hM:Zh 137 w a b s):Xc w q a b x q.nx s w:=⟨q,h,hM,Wf.refl _ _,rfl,rfl,rfl⟩
theorem Xc.memC (h:Xc w q a b x n s w1) (hM:Zh 137 w' a b s') (m:Ze [a,b] w1 w'):Xc w q a b x n s' w':=by
 obtain ⟨r,h1,h2,h3,h4⟩:=h
 have na:=h1.a_nin h2
 have nb:=h1.b_nin h2
 exact ⟨r,h1.mod m (fun k hk hm=>by simp at hm;rcases hm with rfl|rfl;exact na hk;exact nb hk),hM,h3.trans (.of m (fun k hk=>.inl (by simp at hk ⊢;rcases hk with rfl|rfl <;> simp))),h4⟩
theorem Xc.mod0 (h:Xc w q a b x n s w1) (m:Ze [] w1 w'):Xc w q a b x n s w':=by
 obtain ⟨r,h1,h2,h3,h4⟩:=h
 exact Xc.memC ⟨r,h1,h2,h3,h4⟩ (h2.mod m (by simp) (by simp)) (m.weak _)
theorem Xc.alloc (h:Xc w q a b x n s w1) (o:Obj):Xc w q a b x n s (w1.alloc o):=h.mod0 ((Zr_ _ _).alloc _)
theorem Xc.drew (h:Xc w q a b x n s w1):Xc w q a b x n s w1.drew:=h.mod0 ((Zr_ _ _).drew)
theorem Xc.drewN (h:Xc w q a b x n s w1) (k:Nat):Xc w q a b x n s (w1.drewN k):=h.mod0 ((Zr_ _ _).drewN k)
theorem Xc.lt (h:Xc w q a b x n s w1):q.k < w1.heap.size:=by
 obtain ⟨r,h1,_,_,h4,_⟩:=h
 rw [←h4];exact lt_of_block h1.hd
theorem Xc.size (h:Xc w q a b x n s w1):w.heap.size≤w1.heap.size:=by
 obtain ⟨r,_,_,h3,_⟩:=h
 exact h3.md.size
theorem Xc.cell (h:Xc w q a b x n s w1) (i:Nat) {u:Value} (hu:∀ r:WP,r.p.mb=q.p.mb→r.nx=n→(Uv r x)[i]? =some u):w1.cell? ⟨q.k,i,none⟩=some u∧w1.frozen? ⟨q.k,i,none⟩=false:=by
 obtain ⟨r,h1,_,_,h4,h5,h6⟩:=h
 rw [←h4];exact h1.cell i (hu r h5 h6)
theorem Xc.setX (h:Xc w q a b x n s w1) (i:Nat) (u:Value) (x':Z5) (hc:∀ r:WP,(Uv r x).setIfInBounds i u=Uv r x')
  (f1:x'.m=x.m) (f2:x'.args=x.args) (f3:x'.was=x.was) (f4:x'.scan=x.scan) (f5:x'.back=x.back):Xc w q a b x' n s (w1.setCell ⟨q.k,i,none⟩ u):=by
 obtain ⟨r,h1,h2,h3,h4,h5,h6⟩:=h
 have na:=h1.a_nin h2
 have nb:=h1.b_nin h2
 have kin:r.k∈r.blocks:=WP.mem.2 (.inl rfl)
 have m:Ze [r.k] w1 (w1.setCell ⟨q.k,i,none⟩ u):=(Zr_ _ _).setCell _ _ (.inl (by simp [h4]))
 refine ⟨r,h1.setHd m ?_ rfl rfl rfl rfl rfl rfl f1 f2 f3 f4 f5,h2.mod m (by simp;rintro rfl;exact na kin) (by simp;rintro rfl;exact nb kin),h3.trans (.of m (fun k hk=>.inl (by simp at hk;simp [hk,kin]))),h4,h5,h6⟩
 rw [←hc r,h4]
 exact Zd _ (by rw [←h4];exact h1.hd)
theorem Xc.setN (h:Xc w q a b x n s w1) (u:Value):Xc w q a b x u s (w1.setCell ⟨q.k,0,none⟩ u):=by
 obtain ⟨r,h1,h2,h3,h4,h5,h6⟩:=h
 have na:=h1.a_nin h2
 have nb:=h1.b_nin h2
 have kin:r.k∈r.blocks:=WP.mem.2 (.inl rfl)
 have m:Ze [r.k] w1 (w1.setCell ⟨q.k,0,none⟩ u):=(Zr_ _ _).setCell _ _ (.inl (by simp [h4]))
 refine ⟨{r with nx:=u},h1.setHd m ?_ rfl rfl rfl rfl rfl rfl rfl rfl rfl rfl rfl,h2.mod m (by simp;rintro rfl;exact na kin) (by simp;rintro rfl;exact nb kin),h3.trans (.of m (fun k hk=>.inl (by simp at hk;simp [hk,kin]))),h4,h5,rfl⟩
 rw [h4]
 have hk:=h1.hd
 rw [h4] at hk
 exact Zd _ hk
theorem Xc.setS (h:Xc w q a b x n s w1) (u:Int):Xc w q a b x n s (w1.setCell ⟨q.k,12,none⟩ (.int .i64 u)):=by
 obtain ⟨r,h1,h2,h3,h4,h5,h6⟩:=h
 have na:=h1.a_nin h2
 have nb:=h1.b_nin h2
 have kin:r.k∈r.blocks:=WP.mem.2 (.inl rfl)
 have m:Ze [r.k] w1 (w1.setCell ⟨q.k,12,none⟩ (.int .i64 u)):=(Zr_ _ _).setCell _ _ (.inl (by simp [h4]))
 refine ⟨{r with st:=u},h1.setHd m ?_ rfl rfl rfl rfl rfl rfl rfl rfl rfl rfl rfl,h2.mod m (by simp;rintro rfl;exact na kin) (by simp;rintro rfl;exact nb kin),h3.trans (.of m (fun k hk=>.inl (by simp at hk;simp [hk,kin]))),h4,h5,h6⟩
 rw [h4]
 have hk:=h1.hd
 rw [h4] at hk
 exact Zd _ hk
theorem Xc.mach (h:Xc w q a b x n s w1):∃ p,Zg w1 p x.m∧p.mb=q.p.mb∧∀ w' m,Zk w1 p m w'→Xc w q a b {x with m:=m} n s w':=by
 obtain ⟨r,h1,h2,h3,h4,h5,h6⟩:=h
 refine ⟨r.p,h1.mach,h5,fun w' m d=>?_⟩
 obtain ⟨p',k1,F⟩:=h1.machC d
 have na:=h1.a_nin h2
 have nb:=h1.b_nin h2
 have sub:∀ k∈r.p.blocks,k∈r.blocks:=fun k hk=>WP.mem.2 (.inr (.inl hk))
 refine ⟨_,k1,h2.mod F.md (fun hk=>na (sub _ hk)) (fun hk=>nb (sub _ hk)),h3.trans ⟨F.md.mono (fun k hk=>.inl (by simp [sub k hk])),fun k hk=>?_⟩,h4,F.mb.trans h5,h6⟩
 simp only [List.mem_cons,WP.mem] at hk ⊢
 rcases hk with hk|hk|hk|hk|hk
 ·exact .inl (.inl hk)
 ·exact .inl (.inr (.inl hk))
 ·exact .inl (.inr (.inr (.inl hk)))
 ·exact (F.gr k hk).imp (fun h=>.inr (.inr (.inr (.inl h)))) id
 ·exact .inl (.inr (.inr (.inr (.inr hk))))
end
section
attribute [local go_sem] Zi
theorem Xz (P:Program) (w:World) (a:Addr) (m:Mode) (f:Fn) (xs ys:Array Value):(store a (.func f xs ys) m).run P w=stored P w a (.func f xs ys) m:=run_store P w a _ m rfl
theorem Xi (P:Program) (w:World) (a:Addr) (m:Mode):(store a .nilFunc m).run P w=stored P w a .nilFunc m:=run_store P w a _ m rfl
attribute [local go_sem] Xz Xi
variable {w w' w0 w1 w2:World} {p p':MP} {q q':WP} {x x':Z5} {m:Zl} {a b:Nat} {s s':Zj} {S:List Nat} {n:Value}
theorem Xc.memA (h:Xc w q a b x n s w1):Zh 137 w1 a b s:=by
 obtain ⟨_,_,hM,_⟩:=h
 exact hM
def Xe (k:Int):Value:=if k=1 then .func (.func 88) #[] #[] else if k=2 then .func (.func 89) #[] #[] else if k=3 then .func (.func 90) #[] #[] else if k=4 then .func (.func 91) #[] #[]
 else if k=5 then .func (.func 92) #[] #[] else if k=6 then .func (.func 93) #[] #[] else if k=7 then .func (.func 94) #[] #[] else .func (.func 95) #[] #[]
theorem ix187_1 (w:World):(Instr.index 187 (.agg #[Value.nilFunc,Value.func (.func 88) #[] #[],Value.func (.func 89) #[] #[],Value.func (.func 90) #[] #[],Value.func (.func 91) #[] #[],Value.func (.func 92) #[] #[],Value.func (.func 93) #[] #[],Value.func (.func 94) #[] #[],Value.func (.func 95) #[] #[],Value.nilFunc]) (.int .i64 1)).run Tryz.prog w=.ok (Value.func (.func 88) #[] #[]) w:=by kernel_rfl
theorem ix187_2 (w:World):(Instr.index 187 (.agg #[Value.nilFunc,Value.func (.func 88) #[] #[],Value.func (.func 89) #[] #[],Value.func (.func 90) #[] #[],Value.func (.func 91) #[] #[],Value.func (.func 92) #[] #[],Value.func (.func 93) #[] #[],Value.func (.func 94) #[] #[],Value.func (.func 95) #[] #[],Value.nilFunc]) (.int .i64 2)).run Tryz.prog w=.ok (Value.func (.func 89) #[] #[]) w:=by kernel_rfl
theorem ix187_3 (w:World):(Instr.index 187 (.agg #[Value.nilFunc,Value.func (.func 88) #[] #[],Value.func (.func 89) #[] #[],Value.func (.func 90) #[] #[],Value.func (.func 91) #[] #[],Value.func (.func 92) #[] #[],Value.func (.func 93) #[] #[],Value.func (.func 94) #[] #[],Value.func (.func 95) #[] #[],Value.nilFunc]) (.int .i64 3)).run Tryz.prog w=.ok (Value.func (.func 90) #[] #[]) w:=by kernel_rfl
theorem ix187_4 (w:World):(Instr.index 187 (.agg #[Value.nilFunc,Value.func (.func 88) #[] #[],Value.func (.func 89) #[] #[],Value.func (.func 90) #[] #[],Value.func (.func 91) #[] #[],Value.func (.func 92) #[] #[],Value.func (.func 93) #[] #[],Value.func (.func 94) #[] #[],Value.func (.func 95) #[] #[],Value.nilFunc]) (.int .i64 4)).run Tryz.prog w=.ok (Value.func (.func 91) #[] #[]) w:=by kernel_rfl
theorem ix187_5 (w:World):(Instr.index 187 (.agg #[Value.nilFunc,Value.func (.func 88) #[] #[],Value.func (.func 89) #[] #[],Value.func (.func 90) #[] #[],Value.func (.func 91) #[] #[],Value.func (.func 92) #[] #[],Value.func (.func 93) #[] #[],Value.func (.func 94) #[] #[],Value.func (.func 95) #[] #[],Value.nilFunc]) (.int .i64 5)).run Tryz.prog w=.ok (Value.func (.func 92) #[] #[]) w:=by kernel_rfl
theorem ix187_6 (w:World):(Instr.index 187 (.agg #[Value.nilFunc,Value.func (.func 88) #[] #[],Value.func (.func 89) #[] #[],Value.func (.func 90) #[] #[],Value.func (.func 91) #[] #[],Value.func (.func 92) #[] #[],Value.func (.func 93) #[] #[],Value.func (.func 94) #[] #[],Value.func (.func 95) #[] #[],Value.nilFunc]) (.int .i64 6)).run Tryz.prog w=.ok (Value.func (.func 93) #[] #[]) w:=by kernel_rfl
theorem ix187_7 (w:World):(Instr.index 187 (.agg #[Value.nilFunc,Value.func (.func 88) #[] #[],Value.func (.func 89) #[] #[],Value.func (.func 90) #[] #[],Value.func (.func 91) #[] #[],Value.func (.func 92) #[] #[],Value.func (.func 93) #[] #[],Value.func (.func 94) #[] #[],Value.func (.func 95) #[] #[],Value.nilFunc]) (.int .i64 7)).run Tryz.prog w=.ok (Value.func (.func 94) #[] #[]) w:=by kernel_rfl
theorem ix187_8 (w:World):(Instr.index 187 (.agg #[Value.nilFunc,Value.func (.func 88) #[] #[],Value.func (.func 89) #[] #[],Value.func (.func 90) #[] #[],Value.func (.func 91) #[] #[],Value.func (.func 92) #[] #[],Value.func (.func 93) #[] #[],Value.func (.func 94) #[] #[],Value.func (.func 95) #[] #[],Value.nilFunc]) (.int .i64 8)).run Tryz.prog w=.ok (Value.func (.func 95) #[] #[]) w:=by kernel_rfl
theorem ix187_9 (w:World):(Instr.index 187 (.agg #[Value.nilFunc,Value.func (.func 88) #[] #[],Value.func (.func 89) #[] #[],Value.func (.func 90) #[] #[],Value.func (.func 91) #[] #[],Value.func (.func 92) #[] #[],Value.func (.func 93) #[] #[],Value.func (.func 94) #[] #[],Value.func (.func 95) #[] #[],Value.nilFunc]) (.int .i64 9)).run Tryz.prog w=.ok (Value.nilFunc) w:=by kernel_rfl
def Rt (w:World) (q:WP) (a b:Nat) (x:Z5) (s:Zj) (w':World):Prop:=∃ n,Xc w q a b x n s w'∧(x.part≤8→n=Xe x.part)
def Nc (w:World) (q:WP) (a b:Nat) (x:Z5) (s:Zj) (e:Ending) (w':World):Prop:=e=.returned (.tuple #[])∧Rt w q a b x s w'
theorem Vy (h:Xc w q a b x n s w1) (k:Int) (h1:1≤k) (h9:k≤9):
  Calls Tryz.prog 75 #[.pointer (some ⟨q.k,0,none⟩),.int .i64 k] w1 (Nc w q a b {x with part:=k} s):=by
 have c11:=(h.cell 11 (u:=.int .i64 x.part) (fun _ _ _=>rfl)).1
 have fc11:=(h.cell 11 (u:=.int .i64 x.part) (fun _ _ _=>rfl)).2
 have c0:=(h.cell 0 (u:=n) (fun r _ hn=>by rw [←hn];rfl)).1
 have f0:=(h.cell 0 (u:=n) (fun r _ hn=>by rw [←hn];rfl)).2
 have hlt:=h.lt
 have hh:k=1∨k=2∨k=3∨k=4∨k=5∨k=6∨k=7∨k=8∨k=9:=by omega
 have H:=Zh_ h
 clear h
 rcases hh with rfl|rfl|rfl|rfl|rfl|rfl|rfl|rfl|rfl
 ·have hi:=fun w=>ix187_1 w
  clear h1 h9
  go_enter func75,ntmps75
  go_wp2
  go_end0
  exact ⟨rfl,_,(Xc.setX (x':={x with part:=1}) H.out 11 _ (fun _=>rfl) rfl rfl rfl rfl rfl).setN _,fun hp=>by first|rfl|(simp at hp)⟩
 ·have hi:=fun w=>ix187_2 w
  clear h1 h9
  go_enter func75,ntmps75
  go_wp2
  go_end0
  exact ⟨rfl,_,(Xc.setX (x':={x with part:=2}) H.out 11 _ (fun _=>rfl) rfl rfl rfl rfl rfl).setN _,fun hp=>by first|rfl|(simp at hp)⟩
 ·have hi:=fun w=>ix187_3 w
  clear h1 h9
  go_enter func75,ntmps75
  go_wp2
  go_end0
  exact ⟨rfl,_,(Xc.setX (x':={x with part:=3}) H.out 11 _ (fun _=>rfl) rfl rfl rfl rfl rfl).setN _,fun hp=>by first|rfl|(simp at hp)⟩
 ·have hi:=fun w=>ix187_4 w
  clear h1 h9
  go_enter func75,ntmps75
  go_wp2
  go_end0
  exact ⟨rfl,_,(Xc.setX (x':={x with part:=4}) H.out 11 _ (fun _=>rfl) rfl rfl rfl rfl rfl).setN _,fun hp=>by first|rfl|(simp at hp)⟩
 ·have hi:=fun w=>ix187_5 w
  clear h1 h9
  go_enter func75,ntmps75
  go_wp2
  go_end0
  exact ⟨rfl,_,(Xc.setX (x':={x with part:=5}) H.out 11 _ (fun _=>rfl) rfl rfl rfl rfl rfl).setN _,fun hp=>by first|rfl|(simp at hp)⟩
 ·have hi:=fun w=>ix187_6 w
  clear h1 h9
  go_enter func75,ntmps75
  go_wp2
  go_end0
  exact ⟨rfl,_,(Xc.setX (x':={x with part:=6}) H.out 11 _ (fun _=>rfl) rfl rfl rfl rfl rfl).setN _,fun hp=>by first|rfl|(simp at hp)⟩
 ·have hi:=fun w=>ix187_7 w
  clear h1 h9
  go_enter func75,ntmps75
  go_wp2
  go_end0
  exact ⟨rfl,_,(Xc.setX (x':={x with part:=7}) H.out 11 _ (fun _=>rfl) rfl rfl rfl rfl rfl).setN _,fun hp=>by first|rfl|(simp at hp)⟩
 ·have hi:=fun w=>ix187_8 w
  clear h1 h9
  go_enter func75,ntmps75
  go_wp2
  go_end0
  exact ⟨rfl,_,(Xc.setX (x':={x with part:=8}) H.out 11 _ (fun _=>rfl) rfl rfl rfl rfl rfl).setN _,fun hp=>by first|rfl|(simp at hp)⟩
 ·have hi:=fun w=>ix187_9 w
  clear h1 h9
  go_enter func75,ntmps75
  go_wp2
  go_end0
  exact ⟨rfl,_,(Xc.setX (x':={x with part:=9}) H.out 11 _ (fun _=>rfl) rfl rfl rfl rfl rfl).setN _,fun hp=>by first|rfl|(simp at hp)⟩
theorem draws_c (h:Xc w q a b x n s w1):Calls Tryz.prog 88 #[.pointer (some ⟨q.k,0,none⟩),.pointer (some ⟨a,0,none⟩)] w1 (Nc w q a b {x with ticket:=s.got 0,part:=2} (s.add 0 1)):=by
 have c1:=(h.cell 1 (u:=.int .i64 0) (fun _ _ _=>rfl)).1
 have c2:=(h.cell 2 (u:=.int .i64 1) (fun _ _ _=>rfl)).1
 have c3:=(h.cell 3 (u:=.int .i64 2) (fun _ _ _=>rfl)).1
 have c4:=(h.cell 4 (u:=.int .i64 3) (fun _ _ _=>rfl)).1
 have c5:=(h.cell 5 (u:=.int .i64 (Yb x.c1)) (fun _ _ _=>rfl)).1
 have c6:=(h.cell 6 (u:=.int .i64 (Zw x.c0 x.c1)) (fun _ _ _=>rfl)).1
 have hM:=h.memA
 have hlt:=h.lt
 have H:=Zh_ h
 clear h
 go_enter func88,ntmps88
 go_wp2_with fail
 refine (draw_c hM 0 1 2 3 _ _).mono ?_;rintro e w2 ⟨rfl,M2,m2⟩
 clear c1 c2 c3 c4 c5 c6 hM hlt
 have G2:=H.out.memC M2 m2
 have c13:=(G2.cell 13 (u:=.int .u64 x.ticket) (fun _ _ _=>rfl)).1
 have fc13:=(G2.cell 13 (u:=.int .u64 x.ticket) (fun _ _ _=>rfl)).2
 have hlt:=G2.lt
 have H2:=Zh_ G2
 clear G2 M2 m2
 go_wp2_with fail
 refine (Vy (Xc.setX (x':={x with ticket:=s.got 0}) H2.out 13 _ (fun _=>rfl) rfl rfl rfl rfl rfl) 2 (by decide) (by decide)).mono ?_;rintro e w3 ⟨rfl,G3⟩
 go_wp2
 go_end0
 exact ⟨rfl,G3⟩
theorem marks_c (h:Xc w q a b x n s w1):Calls Tryz.prog 90 #[.pointer (some ⟨q.k,0,none⟩),.pointer (some ⟨a,0,none⟩)] w1 (Nc w q a b {x with stamp:=s.got 2,part:=4} (s.load 2)):=by
 have c1:=(h.cell 1 (u:=.int .i64 0) (fun _ _ _=>rfl)).1
 have c2:=(h.cell 2 (u:=.int .i64 1) (fun _ _ _=>rfl)).1
 have c3:=(h.cell 3 (u:=.int .i64 2) (fun _ _ _=>rfl)).1
 have c4:=(h.cell 4 (u:=.int .i64 3) (fun _ _ _=>rfl)).1
 have c5:=(h.cell 5 (u:=.int .i64 (Yb x.c1)) (fun _ _ _=>rfl)).1
 have c6:=(h.cell 6 (u:=.int .i64 (Zw x.c0 x.c1)) (fun _ _ _=>rfl)).1
 have hM:=h.memA
 have hlt:=h.lt
 have H:=Zh_ h
 clear h
 go_enter func90,ntmps90
 go_wp2_with fail
 refine (stamp_c hM 0 1 2 3 _ _).mono ?_;rintro e w2 ⟨rfl,M2,m2⟩
 clear c1 c2 c3 c4 c5 c6 hM hlt
 have G2:=H.out.memC M2 m2
 have c14:=(G2.cell 14 (u:=.int .u64 x.stamp) (fun _ _ _=>rfl)).1
 have fc14:=(G2.cell 14 (u:=.int .u64 x.stamp) (fun _ _ _=>rfl)).2
 have hlt:=G2.lt
 have H2:=Zh_ G2
 clear G2 M2 m2
 go_wp2_with fail
 refine (Vy (Xc.setX (x':={x with stamp:=s.got 2}) H2.out 14 _ (fun _=>rfl) rfl rfl rfl rfl rfl) 4 (by decide) (by decide)).mono ?_;rintro e w3 ⟨rfl,G3⟩
 go_wp2
 go_end0
 exact ⟨rfl,G3⟩
end
section
attribute [local go_sem] Zi
variable {w w' w0 w1 w2:World} {p p':MP} {q q':WP} {x x':Z5} {m:Zl} {a b:Nat} {s s':Zj} {S:List Nat} {n:Value} {c c':Z1} {r r':Xu}
theorem Zv.scanC (h:Zv w q x) {k:Nat} (hk:q.sc=some k) (hM:Zh 137 w a b s) (hc:w'.heap[k]? =some (.cells c'.arr 243 (0,0))) (m:Ze [a,b,k] w w'):Zv w' q {x with scan:=some c'}:=by
 have tk:=h.scan.ty hk
 have na:=h.a_nin hM
 have nb:=h.b_nin hM
 have ne:∀ g,g∈q.blocks→Xv w g≠some 243→g∉[a,b,k]:=by
  intro g hg ht hm
  simp at hm
  rcases hm with rfl|rfl|rfl
  ·exact na hg
  ·exact nb hg
  ·exact ht tk
 have f:∀ g,(g=q.k∨g∈q.p.blocks∨q.va.ownBlock=some g∨q.vw.ownBlock=some g∨q.sc=some g∨q.bk=some g)→Xv w g≠some 243→g∉[a,b,k]:=fun g hg=>ne g (WP.mem.2 hg)
 refine ⟨m.at h.hd (f _ (.inl rfl) (by rw [Zn h.hd];decide)),h.mach.mod m (fun g hg=>f g (by simp [hg]) (fun e=>by have:=h.mach.tyB hg;rw [e] at this;exact absurd this (by decide))),
  Zs h.args m (fun g hg=>f g (by simp [hg]) (by rw [Yc h.args hg];decide)),Zs h.was m (fun g hg=>f g (by simp [hg]) (by rw [Yc h.was hg];decide)),?_,
  h.back.mod m (fun g hg=>f g (by simp [hg]) (by rw [h.back.ty hg];decide)),h.na,h.nw⟩
 rw [hk]
 exact hc
theorem Zv.backC (h:Zv w q x) {k:Nat} (hk:q.bk=some k) (hM:Zh 137 w a b s) (hc:w'.heap[k]? =some (.cells r'.arr 247 (0,0))) (m:Ze [a,b,k] w w'):Zv w' q {x with back:=some r'}:=by
 have tk:=h.back.ty hk
 have na:=h.a_nin hM
 have nb:=h.b_nin hM
 have ne:∀ g,g∈q.blocks→Xv w g≠some 247→g∉[a,b,k]:=by
  intro g hg ht hm
  simp at hm
  rcases hm with rfl|rfl|rfl
  ·exact na hg
  ·exact nb hg
  ·exact ht tk
 have f:∀ g,(g=q.k∨g∈q.p.blocks∨q.va.ownBlock=some g∨q.vw.ownBlock=some g∨q.sc=some g∨q.bk=some g)→Xv w g≠some 247→g∉[a,b,k]:=fun g hg=>ne g (WP.mem.2 hg)
 refine ⟨m.at h.hd (f _ (.inl rfl) (by rw [Zn h.hd];decide)),h.mach.mod m (fun g hg=>f g (by simp [hg]) (fun e=>by have:=h.mach.tyB hg;rw [e] at this;exact absurd this (by decide))),
  Zs h.args m (fun g hg=>f g (by simp [hg]) (by rw [Yc h.args hg];decide)),Zs h.was m (fun g hg=>f g (by simp [hg]) (by rw [Yc h.was hg];decide)),
  h.scan.mod m (fun g hg=>f g (by simp [hg]) (by rw [h.scan.ty hg];decide)),?_,h.na,h.nw⟩
 rw [hk]
 exact hc
theorem Xc.scan (h:Xc w q a b x n s w1) (hc:x.scan=some c):∃ k,w1.heap[k]? =some (.cells c.arr 243 (0,0))∧w1.cell? ⟨q.k,17,none⟩=some (.pointer (some ⟨k,0,none⟩))∧
  ∀ w' c' s',Zh 137 w' a b s'→w'.heap[k]? =some (.cells c'.arr 243 (0,0))→Ze [a,b,k] w1 w'→Xc w q a b {x with scan:=some c'} n s' w':=by
 obtain ⟨r,h1,h2,h3,h4,h5,h6⟩:=h
 have hs:=h1.scan
 rw [hc] at hs
 have:∃ k,r.sc=some k:=by
  cases e:r.sc with
  |none=>rw [e] at hs;exact hs.elim
  |some k=>exact ⟨k,rfl⟩
 obtain ⟨k,hk⟩:=this
 rw [hk] at hs
 refine ⟨k,hs,?_,fun w' c' s' M' hc' m=>⟨r,h1.scanC hk h2 hc' m,M',h3.trans (.of m (fun g hg=>.inl ?_)),h4,h5,h6⟩⟩
 ·have:=(h1.cell 17 (u:=Hr r.sc) rfl).1
  rw [hk] at this
  rw [←h4]
  exact this
 ·simp only [List.mem_cons,List.not_mem_nil,or_false] at hg
  simp only [List.mem_cons,WP.mem]
  rcases hg with rfl|rfl|rfl
  ·exact .inl rfl
  ·exact .inr (.inl rfl)
  ·exact .inr (.inr (by simp [hk]))
theorem Xc.back (h:Xc w q a b x n s w1) (hc:x.back=some r):∃ k,w1.heap[k]? =some (.cells r.arr 247 (0,0))∧w1.cell? ⟨q.k,18,none⟩=some (.pointer (some ⟨k,0,none⟩))∧w1.frozen? ⟨q.k,18,none⟩=false∧
  ∀ w' r' s',Zh 137 w' a b s'→w'.heap[k]? =some (.cells r'.arr 247 (0,0))→Ze [a,b,k] w1 w'→Xc w q a b {x with back:=some r'} n s' w':=by
 obtain ⟨r0,h1,h2,h3,h4,h5,h6⟩:=h
 have hs:=h1.back
 rw [hc] at hs
 have:∃ k,r0.bk=some k:=by
  cases e:r0.bk with
  |none=>rw [e] at hs;exact hs.elim
  |some k=>exact ⟨k,rfl⟩
 obtain ⟨k,hk⟩:=this
 rw [hk] at hs
 refine ⟨k,hs,?_,?_,fun w' c' s' M' hc' m=>⟨r0,h1.backC hk h2 hc' m,M',h3.trans (.of m (fun g hg=>.inl ?_)),h4,h5,h6⟩⟩
 ·have:=(h1.cell 18 (u:=Hr r0.bk) rfl).1
  rw [hk] at this
  rw [←h4]
  exact this
 ·rw [←h4]
  exact (h1.cell 18 (u:=Hr r0.bk) rfl).2
 ·simp only [List.mem_cons,List.not_mem_nil,or_false] at hg
  simp only [List.mem_cons,WP.mem]
  rcases hg with rfl|rfl|rfl
  ·exact .inl rfl
  ·exact .inr (.inl rfl)
  ·exact .inr (.inr (by simp [hk]))
theorem Xc.noBack (h:Xc w q a b x n s w1) (hc:x.back=none):w1.cell? ⟨q.k,18,none⟩=some (.pointer none)∧w1.frozen? ⟨q.k,18,none⟩=false:=by
 obtain ⟨r0,h1,h2,h3,h4,h5,h6⟩:=h
 have hs:=h1.back
 rw [hc] at hs
 have e:r0.bk=none:=by
  cases e:r0.bk with
  |none=>rfl
  |some k=>rw [e] at hs;exact hs.elim
 have:=h1.cell 18 (u:=Hr r0.bk) rfl
 rw [e,h4] at this
 exact this
theorem Xc.scanF (h:Xc w q a b x n s w1):∃ u,w1.cell? ⟨q.k,17,none⟩=some u∧w1.frozen? ⟨q.k,17,none⟩=false:=by
 obtain ⟨r0,h1,h2,h3,h4,h5,h6⟩:=h
 have:=h1.cell 17 (u:=Hr r0.sc) rfl
 rw [h4] at this
 exact ⟨_,this⟩
theorem Xc.stepsF (h:Xc w q a b x n s w1):∃ u,w1.cell? ⟨q.k,12,none⟩=some (.int .i64 u)∧w1.frozen? ⟨q.k,12,none⟩=false:=by
 obtain ⟨r0,h1,h2,h3,h4,h5,h6⟩:=h
 have:=h1.cell 12 (u:=.int .i64 r0.st) rfl
 rw [h4] at this
 exact ⟨_,this⟩
theorem Zv.setHd2 (h:Zv w q x) (m:Ze [q.k] w w') (hd:w'.heap[q.k]? =some (.cells (Uv q' x') 161 (0,0)))
  (e1:q'.k=q.k) (e2:q'.p=q.p) (e3:q'.va=q.va) (e4:q'.vw=q.vw)
  (f1:x'.m=x.m) (f2:x'.args=x.args) (f3:x'.was=x.was) (hs:Lf w' q'.sc x'.scan) (hb:Lm w' q'.bk x'.back):Zv w' q' x':=by
 have ne:∀ g,(g∈q.p.blocks∨q.va.ownBlock=some g∨q.vw.ownBlock=some g∨q.sc=some g∨q.bk=some g)→g∉[q.k]:=fun g hg=>by simpa using h.rest hg
 refine ⟨by rw [e1];exact hd,?_,?_,?_,hs,hb,?_,?_⟩
 ·rw [e2,f1];exact h.mach.mod m (fun k hk=>ne k (.inl hk))
 ·rw [e3,f2];exact Zs h.args m (fun g hg=>ne g (.inr (.inl hg)))
 ·rw [e4,f3];exact Zs h.was m (fun g hg=>ne g (.inr (.inr (.inl hg))))
 ·rw [e2,e3,e4];exact h.na
 ·rw [e2,e4];exact h.nw
theorem Xc.newScan (h:Xc w q a b x n s w1) {k:Nat} (hc:w1.heap[k]? =some (.cells c.arr 243 (0,0))) (hk:w.heap.size≤k):
  Xc w q a b {x with scan:=some c} n s (w1.setCell ⟨q.k,17,none⟩ (.pointer (some ⟨k,0,none⟩))):=by
 obtain ⟨r,h1,h2,h3,h4,h5,h6⟩:=h
 have na:=h1.a_nin h2
 have nb:=h1.b_nin h2
 have kin:r.k∈r.blocks:=WP.mem.2 (.inl rfl)
 have m:Ze [r.k] w1 (w1.setCell ⟨q.k,17,none⟩ (.pointer (some ⟨k,0,none⟩))):=(Zr_ _ _).setCell _ _ (.inl (by simp [h4]))
 have nek:k≠r.k:=h1.k_ne (Zn hc) (by decide)
 refine ⟨{r with sc:=some k},h1.setHd2 m ?_ rfl rfl rfl rfl rfl rfl rfl (m.at hc (by simp [nek])) (h1.back.mod m (fun g hg=>by simpa using h1.rest (by simp [hg]))),h2.mod m (by simp;rintro rfl;exact na kin) (by simp;rintro rfl;exact nb kin),
  ⟨h3.md.then m (fun g hg=>by simp at hg;subst hg;exact h3.gr r.k (by simp [kin])),fun g hg=>?_⟩,h4,h5,h6⟩
 ·have hk:=h1.hd
  rw [h4] at hk ⊢
  exact Zd _ hk
 simp only [List.mem_cons,WP.mem] at hg
 rcases hg with hg|hg|hg|hg|hg|hg|hg|hg
 ·exact h3.gr g (by simp [hg])
 ·exact h3.gr g (by simp [hg])
 ·exact h3.gr g (by simp [hg,kin])
 ·exact h3.gr g (by simp [WP.mem,hg])
 ·exact h3.gr g (by simp [WP.mem,hg])
 ·exact h3.gr g (by simp [WP.mem,hg])
 ·obtain rfl:=Zo_ hg;exact .inr hk
 ·exact h3.gr g (by simp [WP.mem,hg])
theorem Xc.newBack (h:Xc w q a b x n s w1) {k:Nat} (hc:w1.heap[k]? =some (.cells r'.arr 247 (0,0))) (hk:w.heap.size≤k):
  Xc w q a b {x with back:=some r'} n s (w1.setCell ⟨q.k,18,none⟩ (.pointer (some ⟨k,0,none⟩))):=by
 obtain ⟨r,h1,h2,h3,h4,h5,h6⟩:=h
 have na:=h1.a_nin h2
 have nb:=h1.b_nin h2
 have kin:r.k∈r.blocks:=WP.mem.2 (.inl rfl)
 have m:Ze [r.k] w1 (w1.setCell ⟨q.k,18,none⟩ (.pointer (some ⟨k,0,none⟩))):=(Zr_ _ _).setCell _ _ (.inl (by simp [h4]))
 have nek:k≠r.k:=h1.k_ne (Zn hc) (by decide)
 refine ⟨{r with bk:=some k},h1.setHd2 m ?_ rfl rfl rfl rfl rfl rfl rfl (h1.scan.mod m (fun g hg=>by simpa using h1.rest (by simp [hg]))) (m.at hc (by simp [nek])),h2.mod m (by simp;rintro rfl;exact na kin) (by simp;rintro rfl;exact nb kin),
  ⟨h3.md.then m (fun g hg=>by simp at hg;subst hg;exact h3.gr r.k (by simp [kin])),fun g hg=>?_⟩,h4,h5,h6⟩
 ·have hk:=h1.hd
  rw [h4] at hk ⊢
  exact Zd _ hk
 simp only [List.mem_cons,WP.mem] at hg
 rcases hg with hg|hg|hg|hg|hg|hg|hg|hg
 ·exact h3.gr g (by simp [hg])
 ·exact h3.gr g (by simp [hg])
 ·exact h3.gr g (by simp [hg,kin])
 ·exact h3.gr g (by simp [WP.mem,hg])
 ·exact h3.gr g (by simp [WP.mem,hg])
 ·exact h3.gr g (by simp [WP.mem,hg])
 ·exact h3.gr g (by simp [WP.mem,hg])
 ·obtain rfl:=Zo_ hg;exact .inr hk
theorem Xc.dropBack (h:Xc w q a b x n s w1):Xc w q a b {x with back:=none} n s (w1.setCell ⟨q.k,18,none⟩ (.pointer none)):=by
 obtain ⟨r,h1,h2,h3,h4,h5,h6⟩:=h
 have na:=h1.a_nin h2
 have nb:=h1.b_nin h2
 have kin:r.k∈r.blocks:=WP.mem.2 (.inl rfl)
 have m:Ze [r.k] w1 (w1.setCell ⟨q.k,18,none⟩ (.pointer none)):=(Zr_ _ _).setCell _ _ (.inl (by simp [h4]))
 refine ⟨{r with bk:=none},h1.setHd2 m ?_ rfl rfl rfl rfl rfl rfl rfl (h1.scan.mod m (fun g hg=>by simpa using h1.rest (by simp [hg]))) trivial,h2.mod m (by simp;rintro rfl;exact na kin) (by simp;rintro rfl;exact nb kin),
  ⟨h3.md.then m (fun g hg=>by simp at hg;subst hg;exact h3.gr r.k (by simp [kin])),fun g hg=>?_⟩,h4,h5,h6⟩
 ·have hk:=h1.hd
  rw [h4] at hk ⊢
  exact Zd _ hk
 simp only [List.mem_cons,WP.mem] at hg
 rcases hg with hg|hg|hg|hg|hg|hg|hg|hg
 ·exact h3.gr g (by simp [hg])
 ·exact h3.gr g (by simp [hg])
 ·exact h3.gr g (by simp [hg,kin])
 ·exact h3.gr g (by simp [WP.mem,hg])
 ·exact h3.gr g (by simp [WP.mem,hg])
 ·exact h3.gr g (by simp [WP.mem,hg])
 ·exact h3.gr g (by simp [WP.mem,hg])
 ·cases hg
theorem Xc.wasV (h:Xc w q a b x n s w1):∃ v,w1.cell? ⟨q.k,16,none⟩=some v∧w1.frozen? ⟨q.k,16,none⟩=false∧w1.ownsRow 0 51 1 v x.was.length (x.was.map (Value.float .f64))∧
  (∃ cs,w1.heap[q.k]? =some (.cells cs 161 (0,0))∧cs[16]? =some v)∧(∀ g,v.ownBlock=some g→g≠q.k)∧
  (∀ w5 w' v' y,Ze v.ownBlock.toList w1 w5→Uq w1 v v'→w5.ownsRow 0 51 1 v' (x.was.length+1) ((x.was++[y]).map (Value.float .f64))→w'=w5.setCell ⟨q.k,16,none⟩ v'→Xc w q a b {x with was:=x.was++[y]} n s w'):=by
 obtain ⟨r,h1,h2,h3,h4,h5,h6⟩:=h
 have na:=h1.a_nin h2
 have nb:=h1.b_nin h2
 have kin:r.k∈r.blocks:=WP.mem.2 (.inl rfl)
 have c16:=h1.cell 16 (u:=r.vw) rfl
 rw [h4] at c16
 refine ⟨r.vw,c16.1,c16.2,h1.was,⟨_,by rw [←h4];exact h1.hd,rfl⟩,fun g hg=>by rw [←h4];exact h1.rest (by simp [hg]),fun w5 w' v' y m5 ho hr hw'=>?_⟩
 subst hw'
 have inw:∀ g∈r.vw.ownBlock.toList,g∈r.blocks:=fun g hg=>WP.mem.2 (by simp at hg;simp [hg])
 have nk:r.k∉r.vw.ownBlock.toList:=fun hk=>h1.rest (g:=r.k) (by simp at hk;simp [hk]) rfl
 have mk:Ze [r.k] w5 (w5.setCell ⟨q.k,16,none⟩ v'):=(Zr_ _ _).setCell _ _ (.inl (by simp [h4]))
 have m:Ze (r.k :: r.vw.ownBlock.toList) w1 (w5.setCell ⟨q.k,16,none⟩ v'):=(m5.mono (fun g hg=>.inl (by simp at hg ⊢;simp [hg]))).trans (mk.mono (fun g hg=>.inl (by simp at hg ⊢;simp [hg])))
 have hd5:=m5.at h1.hd nk
 have hdk:(w5.setCell ⟨q.k,16,none⟩ v').heap[r.k]? =some (.cells (Uv {r with vw:=v'} {x with was:=x.was++[y]}) 161 (0,0)):=by
  rw [h4] at hd5 ⊢
  exact Zd (i:=16) v' hd5
 have nv':∀ g,v'.ownBlock=some g→g≠r.k:=fun g hg e=>by
  subst e
  have:=Zn hd5
  rw [Yc hr hg] at this
  exact absurd this (by decide)
 have out:∀ g,(g∈r.p.blocks∨r.va.ownBlock=some g∨r.sc=some g∨r.bk=some g)→g∉r.k :: r.vw.ownBlock.toList:=by
  intro g hg hm
  simp only [List.mem_cons,Option.mem_toList] at hm
  rcases hm with hm|hm
  ·exact h1.rest (g:=g) (by rcases hg with hg|hg|hg|hg <;> simp [hg]) hm
  ·have tg:=Yc h1.was hm
   rcases hg with hg|hg|hg|hg
   ·exact h1.nw g hm hg
   ·exact (h1.na g hg).1 hm
   ·rw [h1.scan.ty hg] at tg;exact absurd tg (by decide)
   ·rw [h1.back.ty hg] at tg;exact absurd tg (by decide)
 refine ⟨{r with vw:=v'},⟨hdk,h1.mach.mod m (fun g hg=>out g (.inl hg)),Zs h1.args m (fun g hg=>out g (by simp [hg])),?_,h1.scan.mod m (fun g hg=>out g (by simp [hg])),h1.back.mod m (fun g hg=>out g (by simp [hg])),?_,?_⟩,
  h2.mod m (fun hh=>na (by simp only [List.mem_cons] at hh;rcases hh with rfl|hh;exact kin;exact inw _ hh)) (fun hh=>nb (by simp only [List.mem_cons] at hh;rcases hh with rfl|hh;exact kin;exact inw _ hh)),
  h3.trans ⟨m.mono (fun g hg=>.inl (by simp only [List.mem_cons] at hg ⊢;rcases hg with rfl|hg;simp [kin];simp [inw g hg])),fun g hg=>?_⟩,h4,h5,h6⟩
 ·have:=Zs hr mk (fun g hg=>by simp [nv' g hg])
  simpa using this
 ·intro g hg
  refine ⟨fun e=>?_,(h1.na g hg).2⟩
  rcases ho with ho|⟨g',ho,hge⟩
  ·exact (h1.na g hg).1 (ho ▸ e)
  ·have e':v'.ownBlock=some g:=e
   rw [ho] at e';obtain rfl:=Zo_ e'
   have:=Yr h1.args hg
   omega
 ·intro g hg
  rcases ho with ho|⟨g',ho,hge⟩
  ·exact h1.nw g (ho ▸ hg)
  ·have e':v'.ownBlock=some g:=hg
   rw [ho] at e';obtain rfl:=Zo_ e'
   intro hk
   have:=h1.mach.lt hk
   omega
 ·simp only [List.mem_cons,WP.mem] at hg ⊢
  rcases hg with hg|hg|hg|hg|hg|hg|hg|hg
  ·simp [hg]
  ·simp [hg]
  ·simp [hg]
  ·simp [hg]
  ·simp [hg]
  ·rcases ho with ho|⟨g',ho,hge⟩
   ·rw [ho] at hg;simp [hg]
   ·rw [ho] at hg;obtain rfl:=Zo_ hg;exact .inr hge
  ·simp [hg]
  ·simp [hg]
end
section
attribute [local go_sem] Zi
structure RP where
 k:Nat
 p:MP
 va:Value
 cm:Nat
 rd:Option Nat
 st:Int
def Je (q:RP) (x:Yk):Array Value:=#[.int .i64 0,.int .i64 1,.int .i64 2,.int .i64 3,.int .i64 (Yb x.c1),.int .i64 (Zw x.c0 x.c1),.pointer (some ⟨q.p.mb,0,none⟩),.int .i64 x.tag,q.va,.int .i64 x.part,.int .i64 q.st,.int .i64 x.thread,.pointer (some ⟨q.cm,0,none⟩),Hr q.rd]
def Lg (w:World):Option Nat→Option Y6→Prop
 |none,none=>True
 |some k,some c=>w.heap[k]? =some (.cells c.arr 287 (0,0))
 |_,_=>False
variable {w w' w0 w1 w2:World} {p p':MP} {q q':RP} {x x':Yk} {m:Zl} {a b:Nat} {s s':Zj} {S:List Nat} {r r':Y6}
def RP.blocks (q:RP):List Nat:=q.k :: q.cm :: (q.p.blocks++(q.va.ownBlock.toList++q.rd.toList))
structure Z9 (w:World) (q:RP) (x:Yk):Prop where
 hd:w.heap[q.k]? =some (.cells (Je q x) 168 (0,0))
 mach:Zg w q.p x.m
 args:w.ownsRow 0 51 1 q.va x.args.length (x.args.map (Value.float .f64))
 com:w.heap[q.cm]? =some (.cells x.com.arr 189 (0,0))
 read:Lg w q.rd x.read
 na:∀ g,q.va.ownBlock=some g→g∉q.p.blocks
theorem RP.mem {k:Nat}:k∈q.blocks↔k=q.k∨k=q.cm∨k∈q.p.blocks∨q.va.ownBlock=some k∨q.rd=some k:=by
 unfold RP.blocks
 simp [Option.mem_toList]
theorem Lg.ty {o:Option Nat} {c:Option Y6} (h:Lg w o c) {k:Nat} (hk:o=some k):Xv w k=some 287:=by
 subst hk
 cases c with
 |none=>exact h.elim
 |some c=>exact Zn h
theorem Lg.mod {o:Option Nat} {c:Option Y6} (h:Lg w o c) (m:Ze S w w') (hS:∀ k,o=some k→k∉S):Lg w' o c:=by
 match o,c,h with
 |none,none,_=>trivial
 |some k,some c,h=>exact m.at h (hS k rfl)
def rTys:List (Option TypeId):=[some 168,some 185,some 202,some 204,some 200,none,some 106,some 51,some 3,some 53,some 189,some 287]
theorem Z9.tyB (h:Z9 w q x) {k:Nat} (hk:k∈q.blocks):Xv w k∈rTys:=by
 rw [RP.mem] at hk
 rcases hk with rfl|rfl|hk|hk|hk
 ·rw [Zn h.hd];decide
 ·rw [Zn h.com];decide
 ·have:=h.mach.tyB hk
  simp only [rTys,List.mem_cons,or_false,List.not_mem_nil] at this ⊢
  rcases this with e|e|e|e|e|e|e|e|e <;> simp [e]
 ·rw [Yc h.args hk];decide
 ·rw [h.read.ty hk];decide
theorem Z9.lt (h:Z9 w q x) {k:Nat} (hk:k∈q.blocks):k < w.heap.size:=by
 rw [RP.mem] at hk
 rcases hk with rfl|rfl|hk|hk|hk
 ·exact lt_of_block h.hd
 ·exact lt_of_block h.com
 ·exact h.mach.lt hk
 ·exact Yr h.args hk
 ·exact H4 (h.read.ty hk)
theorem Z9.mod (h:Z9 w q x) (m:Ze S w w') (hS:∀ k∈q.blocks,k∉S):Z9 w' q x:=by
 have f:∀ k,(k=q.k∨k=q.cm∨k∈q.p.blocks∨q.va.ownBlock=some k∨q.rd=some k)→k∉S:=fun k hk=>hS k (RP.mem.2 hk)
 exact ⟨m.at h.hd (f _ (.inl rfl)),h.mach.mod m (fun k hk=>f k (by simp [hk])),Zs h.args m (fun g hg=>f g (by simp [hg])),m.at h.com (f _ (by simp)),h.read.mod m (fun g hg=>f g (by simp [hg])),h.na⟩
theorem Z9.a_nin (h:Z9 w q x) (hM:Zh 137 w a b s):a∉q.blocks:=fun hk=>by
 have:=h.tyB hk
 rw [hM.ta] at this
 exact absurd this (by decide)
theorem Z9.b_nin (h:Z9 w q x) (hM:Zh 137 w a b s):b∉q.blocks:=fun hk=>by
 have:=h.tyB hk
 rw [hM.tb] at this
 exact absurd this (by decide)
theorem Z9.k_ne (h:Z9 w q x) {g:Nat} {t:Option TypeId} (hg:Xv w g=t) (ht:t≠some 168):g≠q.k:=fun e=>ht (by rw [←hg,e];exact Zn h.hd)
theorem Z9.rest (h:Z9 w q x) {g:Nat} (hg:g=q.cm∨g∈q.p.blocks∨q.va.ownBlock=some g∨q.rd=some g):g≠q.k:=by
 rintro rfl
 have tk:=Zn h.hd
 rcases hg with hg|hg|hg|hg
 ·have:=Zn h.com
  rw [←hg,tk] at this
  exact absurd this (by decide)
 ·have:=h.mach.tyB hg
  rw [tk] at this
  exact absurd this (by decide)
 ·exact absurd (tk.symm.trans (Yc h.args hg)) (by decide)
 ·exact absurd (tk.symm.trans (h.read.ty hg)) (by decide)
theorem Z9.setHd (h:Z9 w q x) (m:Ze [q.k] w w') (hd:w'.heap[q.k]? =some (.cells (Je q' x') 168 (0,0)))
  (e1:q'.k=q.k) (e2:q'.p=q.p) (e3:q'.va=q.va) (e4:q'.cm=q.cm) (f1:x'.m=x.m) (f2:x'.args=x.args) (f3:x'.com=x.com) (hr:Lg w' q'.rd x'.read):Z9 w' q' x':=by
 have ne:∀ g,(g=q.cm∨g∈q.p.blocks∨q.va.ownBlock=some g∨q.rd=some g)→g∉[q.k]:=fun g hg=>by simpa using h.rest hg
 refine ⟨by rw [e1];exact hd,?_,?_,?_,hr,?_⟩
 ·rw [e2,f1];exact h.mach.mod m (fun k hk=>ne k (by simp [hk]))
 ·rw [e3,f2];exact Zs h.args m (fun g hg=>ne g (by simp [hg]))
 ·rw [e4,f3];exact m.at h.com (ne _ (by simp))
 ·rw [e2,e3];exact h.na
theorem Z9.cell (h:Z9 w q x) (i:Nat) {u:Value} (hu:(Je q x)[i]? =some u):w.cell? ⟨q.k,i,none⟩=some u∧w.frozen? ⟨q.k,i,none⟩=false:=
 ⟨Za h.hd hu,Zb h.hd⟩
theorem Z9.machC (h:Z9 w q x) (d:Zk w q.p m w'):∃ p',Z9 w' {q with p:=p'} {x with m:=m}∧Hb w q.p w' p':=by
 obtain ⟨p',hm,F⟩:=d
 have nk:q.k∉q.p.blocks:=fun hk=>h.rest (.inr (.inl hk)) rfl
 have nc:q.cm∉q.p.blocks:=fun hk=>by have:=h.mach.tyB hk;rw [Zn h.com] at this;exact absurd this (by decide)
 have old:∀ g,g < w.heap.size→g∉q.p.blocks→g∉p'.blocks:=fun g hl hg hk=>(F.gr g hk).elim hg (fun hs=>by omega)
 refine ⟨p',⟨?_,hm,?_,F.md.at h.com nc,?_,?_⟩,F⟩
 ·have:=F.md.at h.hd nk
  rw [this]
  unfold Je
  rw [F.mb]
 ·exact Zs h.args F.md (fun g hg=>h.na g hg)
 ·exact h.read.mod F.md (fun g hg hk=>by have:=h.mach.tyB hk;rw [h.read.ty hg] at this;exact absurd this (by decide))
 ·exact fun g hg=>old g (Yr h.args hg) (h.na g hg)
def Qi (w:World) (q:RP) (a b:Nat) (x:Yk) (s:Zj) (w':World):Prop:=
 ∃ q',Z9 w' q' x∧Zh 137 w' a b s∧Wf w (a :: b :: q.blocks) w' (a :: b :: q'.blocks)∧q'.k=q.k∧q'.p.mb=q.p.mb∧q'.cm=q.cm
theorem Qi.same (h:Z9 w q x) (hM:Zh 137 w a b s):Qi w q a b x s w:=⟨q,h,hM,Wf.refl _ _,rfl,rfl,rfl⟩
theorem Qi.memC (h:Qi w q a b x s w1) (hM:Zh 137 w' a b s') (m:Ze [a,b] w1 w'):Qi w q a b x s' w':=by
 obtain ⟨r,h1,h2,h3,h4⟩:=h
 have na:=h1.a_nin h2
 have nb:=h1.b_nin h2
 exact ⟨r,h1.mod m (fun k hk hm=>by simp at hm;rcases hm with rfl|rfl;exact na hk;exact nb hk),hM,h3.trans (.of m (fun k hk=>.inl (by simp at hk ⊢;rcases hk with rfl|rfl <;> simp))),h4⟩
theorem Qi.mod0 (h:Qi w q a b x s w1) (m:Ze [] w1 w'):Qi w q a b x s w':=by
 obtain ⟨r,h1,h2,h3,h4⟩:=h
 exact Qi.memC ⟨r,h1,h2,h3,h4⟩ (h2.mod m (by simp) (by simp)) (m.weak _)
theorem Qi.alloc (h:Qi w q a b x s w1) (o:Obj):Qi w q a b x s (w1.alloc o):=h.mod0 ((Zr_ _ _).alloc _)
theorem Qi.drew (h:Qi w q a b x s w1):Qi w q a b x s w1.drew:=h.mod0 ((Zr_ _ _).drew)
theorem Qi.lt (h:Qi w q a b x s w1):q.k < w1.heap.size:=by
 obtain ⟨r,h1,_,_,h4,_⟩:=h
 rw [←h4];exact lt_of_block h1.hd
theorem Qi.memA (h:Qi w q a b x s w1):Zh 137 w1 a b s:=by
 obtain ⟨_,_,hM,_⟩:=h
 exact hM
theorem Qi.size (h:Qi w q a b x s w1):w.heap.size≤w1.heap.size:=by
 obtain ⟨r,_,_,h3,_⟩:=h
 exact h3.md.size
theorem Qi.cell (h:Qi w q a b x s w1) (i:Nat) {u:Value} (hu:∀ r:RP,r.p.mb=q.p.mb→r.cm=q.cm→(Je r x)[i]? =some u):w1.cell? ⟨q.k,i,none⟩=some u∧w1.frozen? ⟨q.k,i,none⟩=false:=by
 obtain ⟨r,h1,_,_,h4,h5,h6⟩:=h
 rw [←h4];exact h1.cell i (hu r h5 h6)
theorem Qi.stepsF (h:Qi w q a b x s w1):∃ u,w1.cell? ⟨q.k,10,none⟩=some (.int .i64 u)∧w1.frozen? ⟨q.k,10,none⟩=false:=by
 obtain ⟨r0,h1,h2,h3,h4,h5⟩:=h
 have:=h1.cell 10 (u:=.int .i64 r0.st) rfl
 rw [h4] at this
 exact ⟨_,this⟩
theorem Qi.comA (h:Qi w q a b x s w1):w1.heap[q.cm]? =some (.cells x.com.arr 189 (0,0))∧∀ w' c' s',Zh 137 w' a b s'→w'.heap[q.cm]? =some (.cells c'.arr 189 (0,0))→Ze [a,b,q.cm] w1 w'→Qi w q a b {x with com:=c'} s' w':=by
 obtain ⟨r,h1,h2,h3,h4,h5,h6⟩:=h
 have na:=h1.a_nin h2
 have nb:=h1.b_nin h2
 have hc:=h1.com
 have tk:=Zn hc
 rw [h6] at hc tk
 refine ⟨hc,fun w' c' s' M' hc' m=>?_⟩
 have f:∀ g,(g=r.k∨g∈r.p.blocks∨r.va.ownBlock=some g∨r.rd=some g)→Xv w1 g≠some 189→g∉[a,b,q.cm]:=by
  intro g hg ht hm
  have hb:g∈r.blocks:=RP.mem.2 (by rcases hg with hg|hg|hg|hg <;> simp [hg])
  simp at hm
  rcases hm with rfl|rfl|rfl
  ·exact na hb
  ·exact nb hb
  ·exact ht tk
 refine ⟨r,⟨m.at h1.hd (f _ (.inl rfl) (by rw [Zn h1.hd];decide)),h1.mach.mod m (fun g hg=>f g (by simp [hg]) (fun e=>by have:=h1.mach.tyB hg;rw [e] at this;exact absurd this (by decide))),
  Zs h1.args m (fun g hg=>f g (by simp [hg]) (by rw [Yc h1.args hg];decide)),by rw [h6];exact hc',h1.read.mod m (fun g hg=>f g (by simp [hg]) (by rw [h1.read.ty hg];decide)),h1.na⟩,M',
  h3.trans (.of m (fun g hg=>.inl ?_)),h4,h5,h6⟩
 simp only [List.mem_cons,List.not_mem_nil,or_false] at hg
 simp only [List.mem_cons,RP.mem]
 rcases hg with rfl|rfl|rfl
 ·exact .inl rfl
 ·exact .inr (.inl rfl)
 ·exact .inr (.inr (by simp [h6]))
theorem Qi.setX (h:Qi w q a b x s w1) (i:Nat) (u:Value) (x':Yk) (hc:∀ r:RP,(Je r x).setIfInBounds i u=Je r x')
  (f1:x'.m=x.m) (f2:x'.args=x.args) (f3:x'.com=x.com) (f4:x'.read=x.read):Qi w q a b x' s (w1.setCell ⟨q.k,i,none⟩ u):=by
 obtain ⟨r,h1,h2,h3,h4,h5,h6⟩:=h
 have na:=h1.a_nin h2
 have nb:=h1.b_nin h2
 have kin:r.k∈r.blocks:=RP.mem.2 (.inl rfl)
 have m:Ze [r.k] w1 (w1.setCell ⟨q.k,i,none⟩ u):=(Zr_ _ _).setCell _ _ (.inl (by simp [h4]))
 refine ⟨r,h1.setHd m ?_ rfl rfl rfl rfl f1 f2 f3 (by rw [f4];exact h1.read.mod m (fun g hg=>by simpa using h1.rest (by simp [hg]))),h2.mod m (by simp;rintro rfl;exact na kin) (by simp;rintro rfl;exact nb kin),h3.trans (.of m (fun k hk=>.inl (by simp at hk;simp [hk,kin]))),h4,h5,h6⟩
 rw [←hc r,h4]
 exact Zd _ (by rw [←h4];exact h1.hd)
theorem Qi.setS (h:Qi w q a b x s w1) (u:Int):Qi w q a b x s (w1.setCell ⟨q.k,10,none⟩ (.int .i64 u)):=by
 obtain ⟨r,h1,h2,h3,h4,h5,h6⟩:=h
 have na:=h1.a_nin h2
 have nb:=h1.b_nin h2
 have kin:r.k∈r.blocks:=RP.mem.2 (.inl rfl)
 have m:Ze [r.k] w1 (w1.setCell ⟨q.k,10,none⟩ (.int .i64 u)):=(Zr_ _ _).setCell _ _ (.inl (by simp [h4]))
 refine ⟨{r with st:=u},h1.setHd m ?_ rfl rfl rfl rfl rfl rfl rfl (h1.read.mod m (fun g hg=>by simpa using h1.rest (by simp [hg]))),h2.mod m (by simp;rintro rfl;exact na kin) (by simp;rintro rfl;exact nb kin),h3.trans (.of m (fun k hk=>.inl (by simp at hk;simp [hk,kin]))),h4,h5,h6⟩
 rw [h4]
 have hk:=h1.hd
 rw [h4] at hk
 exact Zd _ hk
theorem Qi.mach (h:Qi w q a b x s w1):∃ p,Zg w1 p x.m∧p.mb=q.p.mb∧∀ w' m,Zk w1 p m w'→Qi w q a b {x with m:=m} s w'∧∀ i,w'.cell? ⟨q.k,i,none⟩=w1.cell? ⟨q.k,i,none⟩:=by
 obtain ⟨r,h1,h2,h3,h4,h5,h6⟩:=h
 refine ⟨r.p,h1.mach,h5,fun w' m d=>?_⟩
 obtain ⟨p',k1,F⟩:=h1.machC d
 have na:=h1.a_nin h2
 have nb:=h1.b_nin h2
 have sub:∀ k∈r.p.blocks,k∈r.blocks:=fun k hk=>RP.mem.2 (.inr (.inr (.inl hk)))
 refine ⟨?_,fun i=>by
  have e1:=F.md.at h1.hd (fun hk=>h1.rest (.inr (.inl hk)) rfl)
  have e2:=h1.hd
  rw [h4] at e1 e2
  unfold World.cell?
  simp only [e1,e2]⟩
 refine ⟨_,k1,h2.mod F.md (fun hk=>na (sub _ hk)) (fun hk=>nb (sub _ hk)),h3.trans ⟨F.md.mono (fun k hk=>.inl (by simp [sub k hk])),fun k hk=>?_⟩,h4,F.mb.trans h5,h6⟩
 simp only [List.mem_cons,RP.mem] at hk ⊢
 rcases hk with hk|hk|hk|hk|hk|hk
 ·exact .inl (.inl hk)
 ·exact .inl (.inr (.inl hk))
 ·exact .inl (.inr (.inr (.inl hk)))
 ·exact .inl (.inr (.inr (.inr (.inl hk))))
 ·exact (F.gr k hk).imp (fun h=>.inr (.inr (.inr (.inr (.inl h))))) id
 ·exact .inl (.inr (.inr (.inr (.inr (.inr hk)))))
theorem Qi.read (h:Qi w q a b x s w1) (hc:x.read=some r):∃ k,w1.heap[k]? =some (.cells r.arr 287 (0,0))∧w1.cell? ⟨q.k,13,none⟩=some (.pointer (some ⟨k,0,none⟩))∧w1.frozen? ⟨q.k,13,none⟩=false∧
  ∀ w' r' s',Zh 137 w' a b s'→w'.heap[k]? =some (.cells r'.arr 287 (0,0))→Ze [a,b,k] w1 w'→Qi w q a b {x with read:=some r'} s' w'∧w'.cell? ⟨q.k,13,none⟩=some (.pointer (some ⟨k,0,none⟩)):=by
 obtain ⟨r0,h1,h2,h3,h4,h5,h6⟩:=h
 have na:=h1.a_nin h2
 have nb:=h1.b_nin h2
 have hs:=h1.read
 rw [hc] at hs
 have:∃ k,r0.rd=some k:=by
  cases e:r0.rd with
  |none=>rw [e] at hs;exact hs.elim
  |some k=>exact ⟨k,rfl⟩
 obtain ⟨k,hk⟩:=this
 rw [hk] at hs
 have tk:=Zn hs
 have c13:=h1.cell 13 (u:=Hr r0.rd) rfl
 rw [hk,h4] at c13
 refine ⟨k,hs,c13.1,c13.2,fun w' r' s' M' hc' m=>?_⟩
 have f:∀ g,(g=r0.k∨g=r0.cm∨g∈r0.p.blocks∨r0.va.ownBlock=some g)→Xv w1 g≠some 287→g∉[a,b,k]:=by
  intro g hg ht hm
  have hb:g∈r0.blocks:=RP.mem.2 (by rcases hg with hg|hg|hg|hg <;> simp [hg])
  simp at hm
  rcases hm with rfl|rfl|rfl
  ·exact na hb
  ·exact nb hb
  ·exact ht tk
 have R:Z9 w' r0 {x with read:=some r'}:=⟨m.at h1.hd (f _ (.inl rfl) (by rw [Zn h1.hd];decide)),h1.mach.mod m (fun g hg=>f g (by simp [hg]) (fun e=>by have:=h1.mach.tyB hg;rw [e] at this;exact absurd this (by decide))),
  Zs h1.args m (fun g hg=>f g (by simp [hg]) (by rw [Yc h1.args hg];decide)),m.at h1.com (f _ (by simp) (by rw [Zn h1.com];decide)),by rw [hk];exact hc',h1.na⟩
 refine ⟨⟨r0,R,M',h3.trans (.of m (fun g hg=>.inl ?_)),h4,h5,h6⟩,?_⟩
 ·simp only [List.mem_cons,List.not_mem_nil,or_false] at hg
  simp only [List.mem_cons,RP.mem]
  rcases hg with rfl|rfl|rfl
  ·exact .inl rfl
  ·exact .inr (.inl rfl)
  ·exact .inr (.inr (by simp [hk]))
 ·have:=(R.cell 13 (u:=Hr r0.rd) rfl).1
  rw [hk,h4] at this
  exact this
theorem Qi.noRead (h:Qi w q a b x s w1) (hc:x.read=none):w1.cell? ⟨q.k,13,none⟩=some (.pointer none)∧w1.frozen? ⟨q.k,13,none⟩=false:=by
 obtain ⟨r0,h1,h2,h3,h4,h5,h6⟩:=h
 have hs:=h1.read
 rw [hc] at hs
 have e:r0.rd=none:=by
  cases e:r0.rd with
  |none=>rfl
  |some k=>rw [e] at hs;exact hs.elim
 have:=h1.cell 13 (u:=Hr r0.rd) rfl
 rw [e,h4] at this
 exact this
theorem Qi.newRead (h:Qi w q a b x s w1) {k:Nat} (hc:w1.heap[k]? =some (.cells r'.arr 287 (0,0))) (hk:w.heap.size≤k):
  Qi w q a b {x with read:=some r'} s (w1.setCell ⟨q.k,13,none⟩ (.pointer (some ⟨k,0,none⟩))):=by
 obtain ⟨r,h1,h2,h3,h4,h5,h6⟩:=h
 have na:=h1.a_nin h2
 have nb:=h1.b_nin h2
 have kin:r.k∈r.blocks:=RP.mem.2 (.inl rfl)
 have m:Ze [r.k] w1 (w1.setCell ⟨q.k,13,none⟩ (.pointer (some ⟨k,0,none⟩))):=(Zr_ _ _).setCell _ _ (.inl (by simp [h4]))
 have nek:k≠r.k:=h1.k_ne (Zn hc) (by decide)
 refine ⟨{r with rd:=some k},h1.setHd m ?_ rfl rfl rfl rfl rfl rfl rfl (m.at hc (by simp [nek])),h2.mod m (by simp;rintro rfl;exact na kin) (by simp;rintro rfl;exact nb kin),
  ⟨h3.md.then m (fun g hg=>by simp at hg;subst hg;exact h3.gr r.k (by simp [kin])),fun g hg=>?_⟩,h4,h5,h6⟩
 ·have hk:=h1.hd
  rw [h4] at hk ⊢
  exact Zd _ hk
 simp only [List.mem_cons,RP.mem] at hg
 rcases hg with hg|hg|hg|hg|hg|hg|hg
 ·exact h3.gr g (by simp [hg])
 ·exact h3.gr g (by simp [hg])
 ·exact h3.gr g (by simp [hg,kin])
 ·exact h3.gr g (by simp [RP.mem,hg])
 ·exact h3.gr g (by simp [RP.mem,hg])
 ·exact h3.gr g (by simp [RP.mem,hg])
 ·obtain rfl:=Zo_ hg;exact .inr hk
theorem Qi.dropRead (h:Qi w q a b x s w1):Qi w q a b {x with read:=none} s (w1.setCell ⟨q.k,13,none⟩ (.pointer none)):=by
 obtain ⟨r,h1,h2,h3,h4,h5,h6⟩:=h
 have na:=h1.a_nin h2
 have nb:=h1.b_nin h2
 have kin:r.k∈r.blocks:=RP.mem.2 (.inl rfl)
 have m:Ze [r.k] w1 (w1.setCell ⟨q.k,13,none⟩ (.pointer none)):=(Zr_ _ _).setCell _ _ (.inl (by simp [h4]))
 refine ⟨{r with rd:=none},h1.setHd m ?_ rfl rfl rfl rfl rfl rfl rfl trivial,h2.mod m (by simp;rintro rfl;exact na kin) (by simp;rintro rfl;exact nb kin),
  ⟨h3.md.then m (fun g hg=>by simp at hg;subst hg;exact h3.gr r.k (by simp [kin])),fun g hg=>?_⟩,h4,h5,h6⟩
 ·have hk:=h1.hd
  rw [h4] at hk ⊢
  exact Zd _ hk
 simp only [List.mem_cons,RP.mem] at hg
 rcases hg with hg|hg|hg|hg|hg|hg|hg
 ·exact h3.gr g (by simp [hg])
 ·exact h3.gr g (by simp [hg])
 ·exact h3.gr g (by simp [hg,kin])
 ·exact h3.gr g (by simp [RP.mem,hg])
 ·exact h3.gr g (by simp [RP.mem,hg])
 ·exact h3.gr g (by simp [RP.mem,hg])
 ·cases hg
end
end Go.Proofs.YtkhonmhnchdpkaaGreat
