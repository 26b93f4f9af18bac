/- A part of the proof; no condition. -/
import Derived.Test.YtkhonmhnchdpkaaGreatP08
import Derived.Test.YtkhonmhnchdpkaaGreatP16
import Derived.Test.YtkhonmhnchdpkaaGreatP18
set_option maxRecDepth 100000
set_option maxHeartbeats 40000000
namespace Go.Proofs.YtkhonmhnchdpkaaGreat
open Go.RowKit _root_.Go.Proofs.Tryz
section
attribute [local go_sem] Zj
def FL (w:World) (v:Value) (xs:List Nat):Prop:=
 ∃ a cap,v=.slice a xs.length cap/\(xs=[]\/∃ g cs,a=some ⟨g,0,none⟩/\w.heap[g]? =some (.cells cs 51 (0,0))/\∀ i,i < xs.length->cs[i]? =some (.float .f64 (xs.getD i 0)))
def Vg (s:Zh) (p4:Int) (xs:List Nat):Nat->Zh
 |0=>s
 |k+1=>(((Vg s p4 xs k).poke (p4+3 * k) 0).poke (p4+3 * k+1) (Zt (xs.getD k 0):Int)).poke (p4+3 * k+2) 0
theorem Pa (s:Zh) (p4:Int) (xs:List Nat):∀ k,(Vg s p4 xs k).ws.length=s.ws.length
 |0=>rfl
 |k+1=>by rw [Vg,Pn,Pn,Pn,Pa s p4 xs k]
def Cn (s:Zh) (p4:Int) (xs:List Nat):Int:=if 256 < xs.length then 2 else if xs.length=0 then 0 else if p4 < 0\/4096 < p4\/(s.ws.length:Int) < p4+3 * xs.length then 30 else 0
def Q0 (s:Zh) (p4:Int) (xs:List Nat):Zh:=if Cn s p4 xs=0 then Vg s p4 xs xs.length else s
variable {a b:Nat} {s:Zh} {w:World} {xs:List Nat}
theorem Cm (hM:Zi 137 w a b s) (p0 p1 p2 p3 p4 p5:Int) (v:Value) (hv:FL w v xs) (h1:xs.length=0):
  Calls Tryz.prog 41 #[.pointer (some ⟨a,0,none⟩),.agg #[.int .i64 p0,.int .i64 p1,.int .i64 p2,.int .i64 p3,.int .i64 p4,.int .i64 p5],v] w λ e w'=>e=.returned (.int .i64 0)/\Zi 137 w' a b s/\Ze [a,b] w w':=by
 obtain ⟨fa,cap,rfl,hf⟩:=hv;rw [h1];clear hf h1;go_enter func41,ntmps41;go_wp2;go_ret;exact ⟨rfl,hM.alloc _,(Zr_ _ _).alloc _⟩
end
section
def U0 (c0 c1 c2 c3 tag:Int) (code:List Xf) (args:List Nat):Zl where
 c0:=c0
 c1:=c1
 c2:=c2
 c3:=c3
 tag:=tag
 code:=code
 bad:=!Xv tag code
 args:=λ i=>if i < args.length then Zt (args.getD i 0) else 0
 locals:=λ _=>0
 nums:=[]
 calls:=[]
 place:=0
 used:=0
 waits:=false
 cell:=0
 how:=0
 ecode:=0
 eerr:=0
 out:=[]
 reads:=[]
 buf:=⟨[],λ _=>none,c3⟩
structure Z2 where
 (c0 c1:Int)
 m:Zl
 tag:Int
 args:List Nat
 (part ticket stamp number:Int)
 was:List Nat
 scan:Option Z3
 back:Option Xu
 written:Nat
structure Yg where
 (c0 c1:Int)
 m:Zl
 tag:Int
 args:List Nat
 (part thread:Int)
 com:Yf
 read:Option Y1
def Z4 (c1:Int):Int:=3+c1
def Zw (c0 c1:Int):Int:=3+c1+3 * c0
def Gf (c0 c1 st:Int):Z3:=⟨0,1,2,3,Z4 c1,Zw c0 c1,c1,st,0,0⟩
def Qb (c0 c1 c st:Int):Y1:=⟨0,1,2,3,Z4 c1,Zw c0 c1,c,st,0,0,0,0,false⟩
def wrOf (c0 c1 c:Int) (x:Nat) (ve:Int) (y:Nat):Xu:=⟨0,1,2,3,Z4 c1,Zw c0 c1,c,(Zt x:Int),ve,(Zt y:Int),0⟩
def Pv (c0 c1 th:Int):Yf:=⟨0,1,2,3,Z4 c1,Zw c0 c1,th,0,0,0⟩
def u64 (n:Int):Int:=IntKind.u64.wrap n
def Uo (c0 c1 c2 c3 tag:Int) (code:List Xf) (args:List Nat):Z2:=
 ⟨c0,c1,U0 c0 c1 c2 c3 tag code args,tag,args.map Zt,1,0,0,0,[],none,none,0⟩
def Up (c0 c1 c2 c3 th tag:Int) (code:List Xf) (args:List Nat):Yg:=
 ⟨c0,c1,U0 c0 c1 c2 c3 tag code args,tag,args.map Zt,1,th,Pv c0 c1 th,none⟩
def Z2.runs (x:Z2) (s:Zh) (v:Nat):Z2×Zh:=
 let m:=(x.m.step v).1
 let a:=(x.m.step v).2
 if a.kind=1 then ({x with m:=m.give (s.nowV (Z4 x.c1) a.cell)},s.cellM (Z4 x.c1) a.cell 1)
 else if a.kind=3/\a.first=true then ({x with m:=m,was:=x.was++[s.nowV (Z4 x.c1) a.cell]},s.cellM (Z4 x.c1) a.cell 1)
 else if a.kind=4/\m.how=1 then ({x with m:=m,scan:=some (Gf x.c0 x.c1 x.stamp),part:=5},s)
 else if a.kind=4 then ({x with m:=m,part:=8},s)
 else ({x with m:=m},s)
def Z2.scans (x:Z2) (s:Zh):Z2×Zh:=
 match x.scan with
 |none=>(x,s)
 |some c=>({x with scan:=some (c.next s),part:=if c.over s=true then (if 0 < x.was.length then 6 else 7) else 5},c.mem s)
def Z2.wr (x:Z2):Xu:=
 match x.back with
 |some r=>r
 |none=>wrOf x.c0 x.c1 (x.m.buf.all.getD x.written (0,0)).1 (x.was.getD x.written 0) (u64 (x.stamp+1)) (x.m.buf.all.getD x.written (0,0)).2
def Z2.wrote (x:Z2) (r:Xu) (s:Zh):Z2:=
 if r.over s=true then {x with back:=none,written:=x.written+1} else {x with back:=some (r.next s)}
def Z2.ended (x:Z2):Z2:=if x.written=x.was.length then {x with part:=7} else x
def Z2.writes (x:Z2) (s:Zh):Z2×Zh:=((x.wrote x.wr s).ended,x.wr.mem s)
def Z2.step (x:Z2) (s:Zh) (v:Nat):Z2×Zh:=
 if x.part=1 then ({x with ticket:=s.got 0,part:=2},s.add 0 1)
 else if x.part=2 then ({x with part:=if s.look 1 x.ticket=true then 3 else 2},s.load 1)
 else if x.part=3 then ({x with stamp:=s.got 2,part:=4},s.load 2)
 else if x.part=4 then x.runs s v
 else if x.part=5 then x.scans s
 else if x.part=6 then x.writes s
 else if x.part=7 then ({x with number:=wrap64 (u64 (x.stamp+1)),part:=8},s.store 2 (u64 (x.stamp+1)))
 else ({x with part:=9},s.store 1 (u64 (x.ticket+1)))
def Yg.goOn (x:Yg) (r:Y1) (s:Zh):Yg×Zh:=
 (if r.over s=true then {x with m:=x.m.give (r.next s).value,read:=none} else {x with read:=some (r.next s)},r.mem s)
def Yg.run (x:Yg) (s:Zh) (v:Nat):Yg×Zh:=
 match x.read with
 |some r=>x.goOn r s
 |none=>
  if (x.m.step v).2.kind=1 then Yg.goOn {x with m:=(x.m.step v).1} (Qb x.c0 x.c1 (x.m.step v).2.cell x.com.st) s
  else ({x with m:=(x.m.step v).1,part:=if (x.m.step v).2.kind=4 then 3 else x.part},s)
def Yg.step (x:Yg) (s:Zh) (v:Nat):Yg×Zh:=
 if x.part=1 then ({x with com:=x.com.next s,part:=if x.com.over s=true then 2 else 1},x.com.mem s)
 else if x.part=2 then x.run s v
 else ({x with part:=4},s.leave 3 x.thread)
structure Zv where
 (th no prog tag:Int)
 args:List Nat
 (mark number:Int)
 (reads writes:List (Int×Nat))
 out:List Nat
 (how ecode eerr bgn ended:Int)
def Zv.join (d told:Zv):Zv:={told with th:=d.th,no:=d.no,prog:=d.prog,bgn:=d.bgn,ended:=d.ended}
def Z2.told (x:Z2):Zv:=
 ⟨0,0,0,x.tag,x.args,if 1 < x.part then wrap64 x.ticket else -1,x.number,x.m.reads,x.m.buf.all,x.m.out,
  if x.part=9 then x.m.how else 0,if x.part=9 then x.m.ecode else 0,if x.part=9 then x.m.eerr else 0,0,0⟩
def Yg.told (x:Yg):Zv:=
 ⟨0,0,0,x.tag,x.args,if x.part=1 then -1 else wrap64 x.com.st,0,x.m.reads,x.m.buf.all,x.m.out,
  if x.part=4 then x.m.how else 0,if x.part=4 then x.m.ecode else 0,if x.part=4 then x.m.eerr else 0,0,0⟩
inductive Qw where
 |wr (x:Z2)
 |rd (x:Yg)
def Qw.step:Qw->Zh->Nat->Qw×Zh
 |.wr x,s,v=>(.wr (x.step s v).1,(x.step s v).2)
 |.rd x,s,v=>(.rd (x.step s v).1,(x.step s v).2)
def Qw.over:Qw->Bool
 |.wr x=>x.part==9
 |.rd x=>x.part==4
def Qw.told:Qw->Zv
 |.wr x=>x.told
 |.rd x=>x.told
def Qw.m:Qw->Zl
 |.wr x=>x.m
 |.rd x=>x.m
structure Gq where
 raw:Zv
 g:Option Qw
def Gq.deed (x:Gq):Zv:=match x.g with|some g=>x.raw.join g.told|none=>x.raw
structure Gn where
 calls:List (Int×List Nat)
 begun:Nat
 cur:Option Nat
def Bd:Gn:=⟨[],0,none⟩
def Gn.fin (x:Gn):Bool:=x.cur.isNone&&x.begun==x.calls.length
structure Zq where
 (c0 c1 c2 c3:Int)
 progs:List (Int×List Xf)
 mem:Zh
 ths:List Gn
 txs:List Gq
 steps:Nat
def Zq.th (s:Zq) (t:Nat):Gn:=s.ths.getD t Bd
def Zq.call (s:Zq) (t:Nat):Int×List Nat:=(s.th t).calls.getD (s.th t).begun (0,[])
def Zq.prog (s:Zq) (n:Int):Int×List Xf:=s.progs.getD n.toNat (0,[])
def Zq.newG (s:Zq) (t:Nat):Qw:=
 if (s.prog (s.call t).1).1=2 then .wr (Uo s.c0 s.c1 s.c2 s.c3 (s.prog (s.call t).1).1 (s.prog (s.call t).1).2 (s.call t).2)
 else .rd (Up s.c0 s.c1 s.c2 s.c3 t (s.prog (s.call t).1).1 (s.prog (s.call t).1).2 (s.call t).2)
def Xl (t no prog bgn:Int):Zv:=⟨t,no,prog,0,[],0,0,[],[],[],0,0,0,bgn,0⟩
def Zq.begin (s:Zq) (t:Nat):Zq:=
 {s with ths:=s.ths.set t {s.th t with cur:=some s.txs.length,begun:=(s.th t).begun+1},txs:=s.txs++[⟨Xl t (s.th t).begun (s.call t).1 s.steps,some (s.newG t)⟩]}
def Zq.fire (s:Zq) (t:Nat) (v:Nat):Zq:=
 match (s.th t).cur with
 |none=>s
 |some i=>
  match s.txs[i]? with
  |some ⟨raw,some g⟩=>
   if (g.step s.mem.opened v).1.over=true then
    {s with mem:=(g.step s.mem.opened v).2,ths:=s.ths.set t {s.th t with cur:=none},txs:=s.txs.set i ⟨{raw.join (g.step s.mem.opened v).1.told with ended:=s.steps},none⟩}
   else {s with mem:=(g.step s.mem.opened v).2,txs:=s.txs.set i ⟨raw,some (g.step s.mem.opened v).1⟩}
  |_=>s
def Zq.ready (s:Zq) (t:Nat):Zq:=
 if (s.th t).cur.isNone=true then {s with steps:=s.steps+1}.begin t else {s with steps:=s.steps+1}
def Zq.step (s:Zq) (t:Nat) (v:Nat):Zq:=if (s.th t).fin=true then s else (s.ready t).fire t v
inductive Vv:Zq->List Nat->Zq->Prop
 |nil (s:Zq):Vv s [] s
 |cons {s r:Zq} {t:Nat} {l:List Nat} (v:Nat) (h:Vv (s.step t v) l r):Vv s (t :: l) r
def Zq.view (s:Zq):List Zv:=s.txs.map Gq.deed
def Zq.over (s:Zq):Bool:=s.ths.all (·.fin)
def Zq.cellV (s:Zq) (i:Nat):Nat:=
 atB (s.mem.peek (Z4 s.c1+3 * i)) (s.mem.peek (Z4 s.c1+3 * i+1)) (s.mem.peek (Z4 s.c1+3 * i+2)) (s.mem.peek 2)
def Zq.state (s:Zq):List Nat:=(List.range s.c0.toNat).map s.cellV
def U1 (c0 c1 c2 c3:Int) (start:List Nat) (progs:List (Int×List Xf)) (calls:List (List (Int×List Nat))):Zq where
 c0:=c0
 c1:=c1
 c2:=c2
 c3:=c3
 progs:=progs
 mem:=Q0 (.fresh (Zw c0 c1).toNat) (Z4 c1) start
 ths:=(List.range c1.toNat).map (λ t=>⟨calls.getD t [],0,none⟩)
 txs:=[]
 steps:=0
end
section
attribute [local go_sem] Zj
structure W7 (w:World) (B:List Nat) (w':World) (B':List Nat):Prop where
 md:Ze B w w'
 gr:∀ k∈B',k∈B\/w.heap.size<=k
theorem W7.refl (w:World) (B:List Nat):W7 w B w B:=⟨Zr_ _ _,λ _ h=>.inl h⟩
theorem W7.trans {a b c:World} {A B C:List Nat} (h:W7 a A b B) (k:W7 b B c C):W7 a A c C:=
 ⟨h.md.then k.md h.gr,λ i hi=>(k.gr i hi).elim (h.gr i) (λ hs=>.inr (Nat.le_trans h.md.size hs))⟩
theorem W7.of {a b:World} {S B:List Nat} (m:Ze S a b) (hS:∀ k∈S,k∈B\/a.heap.size<=k):W7 a B b B:=⟨m.mono hS,λ _ h=>.inl h⟩
def Pf:Option Nat->Value
 |none=>.pointer none
 |some k=>.pointer (some ⟨k,0,none⟩)
structure WP where
 k:Nat
 p:MP
 va:Value
 vw:Value
 sc:Option Nat
 bk:Option Nat
 st:Int
 nx:Value
def Uy (q:WP) (x:Z2):Array Value:=#[q.nx,.int .i64 0,.int .i64 1,.int .i64 2,.int .i64 3,.int .i64 (Z4 x.c1),.int .i64 (Zw x.c0 x.c1),.pointer (some ⟨q.p.mb,0,none⟩),.int .i64 x.c1,.int .i64 x.tag,q.va,.int .i64 x.part,.int .i64 q.st,.int .u64 x.ticket,.int .u64 x.stamp,.int .i64 x.number,q.vw,Pf q.sc,Pf q.bk,.int .i64 x.written]
def L0 (w:World):Option Nat->Option Z3->Prop
 |none,none=>True
 |some k,some c=>w.heap[k]? =some (.cells c.arr 243 (0,0))
 |_,_=>False
def Ra (w:World):Option Nat->Option Xu->Prop
 |none,none=>True
 |some k,some c=>w.heap[k]? =some (.cells c.arr 247 (0,0))
 |_,_=>False
variable {w w' w0 w1 w2:World} {p p':MP} {q q':WP} {x x':Z2} {m:Zl} {a b:Nat} {s s':Zh} {S:List Nat} {n:Value}
def WP.blocks (q:WP):List Nat:=q.k :: (q.p.blocks++(q.va.ownBlock.toList++(q.vw.ownBlock.toList++(q.sc.toList++q.bk.toList))))
structure Zx (w:World) (q:WP) (x:Z2):Prop where
 hd:w.heap[q.k]? =some (.cells (Uy q x) 161 (0,0))
 mach:Zg w q.p x.m
 args:w.ownsRow 0 51 1 q.va x.args.length (x.args.map (Value.float .f64))
 was:w.ownsRow 0 51 1 q.vw x.was.length (x.was.map (Value.float .f64))
 scan:L0 w q.sc x.scan
 back:Ra w q.bk x.back
 na:∀ g,q.va.ownBlock=some g->q.vw.ownBlock≠some g/\g∉q.p.blocks
 nw:∀ g,q.vw.ownBlock=some g->g∉q.p.blocks
theorem WP.mem {k:Nat}:k∈q.blocks↔k=q.k\/k∈q.p.blocks\/q.va.ownBlock=some k\/q.vw.ownBlock=some k\/q.sc=some k\/q.bk=some k:=by
 unfold WP.blocks;simp [Option.mem_toList]
theorem Zg.tyB (h:Zg w p m) {k:Nat} (hk:k∈p.blocks):Xw w k∈[some 185,some 202,some 204,some 200,none,some 106,some 51,some 3,some 53]:=by
 rw [Y2] at hk;rcases hk with rfl|rfl|rfl|rfl|rfl|hk|hk|hk|hk|hk|hk
 ·rw [h.t_mb];decide
 ·rw [h.t_nb];decide
 ·rw [h.t_kb];decide
 ·rw [h.t_bb];decide
 ·rw [h.t_pb];decide
 ·rw [h.t_vc hk];decide
 ·rw [h.t_vn hk];decide
 ·rw [h.t_vk hk];decide
 ·rw [h.t_vo hk];decide
 ·rw [h.t_vr hk];decide
 ·rw [h.t_vb hk];decide
theorem L0.ty {o:Option Nat} {c:Option Z3} (h:L0 w o c) {k:Nat} (hk:o=some k):Xw w k=some 243:=by
 subst hk;cases c with
 |none=>exact h.elim
 |some c=>exact Zn h
theorem Ra.ty {o:Option Nat} {c:Option Xu} (h:Ra w o c) {k:Nat} (hk:o=some k):Xw w k=some 247:=by
 subst hk;cases c with
 |none=>exact h.elim
 |some c=>exact Zn h
theorem L0.mod {o:Option Nat} {c:Option Z3} (h:L0 w o c) (m:Ze S w w') (hS:∀ k,o=some k->k∉S):L0 w' o c:=by
 match o,c,h with
 |none,none,_=>trivial
 |some k,some c,h=>exact m.at h (hS k rfl)
theorem Ra.mod {o:Option Nat} {c:Option Xu} (h:Ra w o c) (m:Ze S w w') (hS:∀ k,o=some k->k∉S):Ra w' o c:=by
 match o,c,h with
 |none,none,_=>trivial
 |some k,some c,h=>exact m.at h (hS k rfl)
def wTys:List (Option TypeId):=[some 161,some 185,some 202,some 204,some 200,none,some 106,some 51,some 3,some 53,some 243,some 247]
theorem Zx.tyB (h:Zx w q x) {k:Nat} (hk:k∈q.blocks):Xw w k∈wTys:=by
 rw [WP.mem] at hk;rcases hk with rfl|hk|hk|hk|hk|hk
 ·rw [Zn h.hd];decide
 ·have:=h.mach.tyB hk;simp only [wTys,List.mem_cons,or_false,List.not_mem_nil] at this ⊢
  rcases this with e|e|e|e|e|e|e|e|e <;> simp [e]
 ·rw [Yc h.args hk];decide
 ·rw [Yc h.was hk];decide
 ·rw [h.scan.ty hk];decide
 ·rw [h.back.ty hk];decide
theorem Pm {k:Nat} {t:TypeId} (h:Xw w k=some t):k < w.heap.size:=by
 unfold Xw at h;split at h
 ·rename_i e;exact lt_of_block e
 ·cases h
theorem Zx.lt (h:Zx w q x) {k:Nat} (hk:k∈q.blocks):k < w.heap.size:=by
 rw [WP.mem] at hk;rcases hk with rfl|hk|hk|hk|hk|hk
 ·exact lt_of_block h.hd
 ·exact h.mach.lt hk
 ·exact Ys h.args hk
 ·exact Ys h.was hk
 ·exact Pm (h.scan.ty hk)
 ·exact Pm (h.back.ty hk)
theorem Zx.mod (h:Zx w q x) (m:Ze S w w') (hS:∀ k∈q.blocks,k∉S):Zx w' q x:=by
 have f:∀ k,(k=q.k\/k∈q.p.blocks\/q.va.ownBlock=some k\/q.vw.ownBlock=some k\/q.sc=some k\/q.bk=some k)->k∉S:=λ k hk=>hS k (WP.mem.2 hk);exact ⟨m.at h.hd (f _ (.inl rfl)),h.mach.mod m (λ k hk=>f k (by simp [hk])),Zs h.args m (λ g hg=>f g (by simp [hg])),Zs h.was m (λ g hg=>f g (by simp [hg])),
  h.scan.mod m (λ g hg=>f g (by simp [hg])),h.back.mod m (λ g hg=>f g (by simp [hg])),h.na,h.nw⟩
theorem Zi.ta (h:Zi 137 w a b s):Xw w a=some 137:=Zn h.hd
theorem Zi.tb (h:Zi 137 w a b s):Xw w b=some 54:=Zn h.ws
theorem Zx.a_nin (h:Zx w q x) (hM:Zi 137 w a b s):a∉q.blocks:=λ hk=>by
 have:=h.tyB hk;rw [hM.ta] at this;exact absurd this (by decide)
theorem Zx.b_nin (h:Zx w q x) (hM:Zi 137 w a b s):b∉q.blocks:=λ hk=>by
 have:=h.tyB hk;rw [hM.tb] at this;exact absurd this (by decide)
theorem Zx.k_ne (h:Zx w q x) {g:Nat} {t:Option TypeId} (hg:Xw w g=t) (ht:t≠some 161):g≠q.k:=λ e=>ht (by rw [<-hg,e];exact Zn h.hd)
theorem Zx.rest (h:Zx w q x) {g:Nat} (hg:g∈q.p.blocks\/q.va.ownBlock=some g\/q.vw.ownBlock=some g\/q.sc=some g\/q.bk=some g):g≠q.k:=by
 rintro rfl;have tk:=Zn h.hd;rcases hg with hg|hg|hg|hg|hg
 ·have:=h.mach.tyB hg;rw [tk] at this;exact absurd this (by decide)
 ·exact absurd (tk.symm.trans (Yc h.args hg)) (by decide)
 ·exact absurd (tk.symm.trans (Yc h.was hg)) (by decide)
 ·exact absurd (tk.symm.trans (h.scan.ty hg)) (by decide)
 ·exact absurd (tk.symm.trans (h.back.ty hg)) (by decide)
theorem Zx.setHd (h:Zx w q x) (m:Ze [q.k] w w') (hd:w'.heap[q.k]? =some (.cells (Uy q' x') 161 (0,0)))
  (e1:q'.k=q.k) (e2:q'.p=q.p) (e3:q'.va=q.va) (e4:q'.vw=q.vw) (e5:q'.sc=q.sc) (e6:q'.bk=q.bk)
  (f1:x'.m=x.m) (f2:x'.args=x.args) (f3:x'.was=x.was) (f4:x'.scan=x.scan) (f5:x'.back=x.back):Zx w' q' x':=by
 have ne:∀ g,(g∈q.p.blocks\/q.va.ownBlock=some g\/q.vw.ownBlock=some g\/q.sc=some g\/q.bk=some g)->g∉[q.k]:=λ g hg=>by simpa using h.rest hg
 refine ⟨by rw [e1];exact hd,?_,?_,?_,?_,?_,?_,?_⟩
 ·rw [e2,f1];exact h.mach.mod m (λ k hk=>ne k (.inl hk))
 ·rw [e3,f2];exact Zs h.args m (λ g hg=>ne g (.inr (.inl hg)))
 ·rw [e4,f3];exact Zs h.was m (λ g hg=>ne g (.inr (.inr (.inl hg))))
 ·rw [e5,f4];exact h.scan.mod m (λ g hg=>ne g (.inr (.inr (.inr (.inl hg)))))
 ·rw [e6,f5];exact h.back.mod m (λ g hg=>ne g (.inr (.inr (.inr (.inr hg)))))
 ·rw [e2,e3,e4];exact h.na
 ·rw [e2,e4];exact h.nw
theorem Zx.cell (h:Zx w q x) (i:Nat) {u:Value} (hu:(Uy q x)[i]? =some u):w.cell? ⟨q.k,i,none⟩=some u/\w.frozen? ⟨q.k,i,none⟩=false:=
 ⟨Za h.hd hu,Zb h.hd⟩
theorem Zx.machC (h:Zx w q x) (d:Zk w q.p m w'):∃ p',Zx w' {q with p:=p'} {x with m:=m}/\Hu w q.p w' p':=by
 obtain ⟨p',hm,F⟩:=d;have nk:q.k∉q.p.blocks:=λ hk=>h.rest (.inl hk) rfl;have old:∀ g,g < w.heap.size->g∉q.p.blocks->g∉p'.blocks:=λ g hl hg hk=>(F.gr g hk).elim hg (λ hs=>by omega);refine ⟨p',⟨?_,hm,?_,?_,?_,?_,?_,?_⟩,F⟩
 ·have:=F.md.at h.hd nk;rw [this];unfold Uy;rw [F.mb]
 ·exact Zs h.args F.md (λ g hg=>(h.na g hg).2)
 ·exact Zs h.was F.md (λ g hg=>h.nw g hg)
 ·exact h.scan.mod F.md (λ g hg hk=>by have:=h.mach.tyB hk;rw [h.scan.ty hg] at this;exact absurd this (by decide))
 ·exact h.back.mod F.md (λ g hg hk=>by have:=h.mach.tyB hk;rw [h.back.ty hg] at this;exact absurd this (by decide))
 ·exact λ g hg=>⟨(h.na g hg).1,old g (Ys h.args hg) (h.na g hg).2⟩
 ·exact λ g hg=>old g (Ys h.was hg) (h.nw g hg)
def Xc (w:World) (q:WP) (a b:Nat) (x:Z2) (n:Value) (s:Zh) (w':World):Prop:=
 ∃ q',Zx w' q' x/\Zi 137 w' a b s/\W7 w (a :: b :: q.blocks) w' (a :: b :: q'.blocks)/\q'.k=q.k/\q'.p.mb=q.p.mb/\q'.nx=n
theorem Xc.same (h:Zx w q x) (hM:Zi 137 w a b s):Xc w q a b x q.nx s w:=⟨q,h,hM,W7.refl _ _,rfl,rfl,rfl⟩
theorem Xc.memC (h:Xc w q a b x n s w1) (hM:Zi 137 w' a b s') (m:Ze [a,b] w1 w'):Xc w q a b x n s' w':=by
 obtain ⟨r,h1,h2,h3,h4⟩:=h;have na:=h1.a_nin h2;have nb:=h1.b_nin h2;exact ⟨r,h1.mod m (λ k hk hm=>by simp at hm;rcases hm with rfl|rfl;exact na hk;exact nb hk),hM,h3.trans (.of m (λ k hk=>.inl (by simp at hk ⊢;rcases hk with rfl|rfl <;> simp))),h4⟩
theorem Xc.mod0 (h:Xc w q a b x n s w1) (m:Ze [] w1 w'):Xc w q a b x n s w':=by
 obtain ⟨r,h1,h2,h3,h4⟩:=h;exact Xc.memC ⟨r,h1,h2,h3,h4⟩ (h2.mod m (by simp) (by simp)) (m.weak _)
theorem Xc.alloc (h:Xc w q a b x n s w1) (o:Obj):Xc w q a b x n s (w1.alloc o):=h.mod0 ((Zr_ _ _).alloc _)
theorem Xc.drew (h:Xc w q a b x n s w1):Xc w q a b x n s w1.drew:=h.mod0 ((Zr_ _ _).drew)
theorem Xc.drewN (h:Xc w q a b x n s w1) (k:Nat):Xc w q a b x n s (w1.drewN k):=h.mod0 ((Zr_ _ _).drewN k)
theorem Xc.lt (h:Xc w q a b x n s w1):q.k < w1.heap.size:=by
 obtain ⟨r,h1,_,_,h4,_⟩:=h;rw [<-h4];exact lt_of_block h1.hd
theorem Xc.size (h:Xc w q a b x n s w1):w.heap.size<=w1.heap.size:=by
 obtain ⟨r,_,_,h3,_⟩:=h;exact h3.md.size
theorem Xc.cell (h:Xc w q a b x n s w1) (i:Nat) {u:Value} (hu:∀ r:WP,r.p.mb=q.p.mb->r.nx=n->(Uy r x)[i]? =some u):w1.cell? ⟨q.k,i,none⟩=some u/\w1.frozen? ⟨q.k,i,none⟩=false:=by
 obtain ⟨r,h1,_,_,h4,h5,h6⟩:=h;rw [<-h4];exact h1.cell i (hu r h5 h6)
theorem Xc.setX (h:Xc w q a b x n s w1) (i:Nat) (u:Value) (x':Z2) (hc:∀ r:WP,(Uy r x).setIfInBounds i u=Uy r x')
  (f1:x'.m=x.m) (f2:x'.args=x.args) (f3:x'.was=x.was) (f4:x'.scan=x.scan) (f5:x'.back=x.back):Xc w q a b x' n s (w1.setCell ⟨q.k,i,none⟩ u):=by
 obtain ⟨r,h1,h2,h3,h4,h5,h6⟩:=h;have na:=h1.a_nin h2;have nb:=h1.b_nin h2;have kin:r.k∈r.blocks:=WP.mem.2 (.inl rfl);have m:Ze [r.k] w1 (w1.setCell ⟨q.k,i,none⟩ u):=(Zr_ _ _).setCell _ _ (.inl (by simp [h4]));refine ⟨r,h1.setHd m ?_ rfl rfl rfl rfl rfl rfl f1 f2 f3 f4 f5,h2.mod m (by simp;rintro rfl;exact na kin) (by simp;rintro rfl;exact nb kin),h3.trans (.of m (λ k hk=>.inl (by simp at hk;simp [hk,kin]))),h4,h5,h6⟩;rw [<-hc r,h4];exact Zd _ (by rw [<-h4];exact h1.hd)
theorem Xc.setN (h:Xc w q a b x n s w1) (u:Value):Xc w q a b x u s (w1.setCell ⟨q.k,0,none⟩ u):=by
 obtain ⟨r,h1,h2,h3,h4,h5,h6⟩:=h;have na:=h1.a_nin h2;have nb:=h1.b_nin h2;have kin:r.k∈r.blocks:=WP.mem.2 (.inl rfl);have m:Ze [r.k] w1 (w1.setCell ⟨q.k,0,none⟩ u):=(Zr_ _ _).setCell _ _ (.inl (by simp [h4]));refine ⟨{r with nx:=u},h1.setHd m ?_ rfl rfl rfl rfl rfl rfl rfl rfl rfl rfl rfl,h2.mod m (by simp;rintro rfl;exact na kin) (by simp;rintro rfl;exact nb kin),h3.trans (.of m (λ k hk=>.inl (by simp at hk;simp [hk,kin]))),h4,h5,rfl⟩;rw [h4];have hk:=h1.hd;rw [h4] at hk;exact Zd _ hk
theorem Xc.setS (h:Xc w q a b x n s w1) (u:Int):Xc w q a b x n s (w1.setCell ⟨q.k,12,none⟩ (.int .i64 u)):=by
 obtain ⟨r,h1,h2,h3,h4,h5,h6⟩:=h;have na:=h1.a_nin h2;have nb:=h1.b_nin h2;have kin:r.k∈r.blocks:=WP.mem.2 (.inl rfl);have m:Ze [r.k] w1 (w1.setCell ⟨q.k,12,none⟩ (.int .i64 u)):=(Zr_ _ _).setCell _ _ (.inl (by simp [h4]));refine ⟨{r with st:=u},h1.setHd m ?_ rfl rfl rfl rfl rfl rfl rfl rfl rfl rfl rfl,h2.mod m (by simp;rintro rfl;exact na kin) (by simp;rintro rfl;exact nb kin),h3.trans (.of m (λ k hk=>.inl (by simp at hk;simp [hk,kin]))),h4,h5,h6⟩;rw [h4];have hk:=h1.hd;rw [h4] at hk;exact Zd _ hk
theorem Xc.mach (h:Xc w q a b x n s w1):∃ p,Zg w1 p x.m/\p.mb=q.p.mb/\∀ w' m,Zk w1 p m w'->Xc w q a b {x with m:=m} n s w':=by
 obtain ⟨r,h1,h2,h3,h4,h5,h6⟩:=h;refine ⟨r.p,h1.mach,h5,λ w' m d=>?_⟩;obtain ⟨p',k1,F⟩:=h1.machC d;have na:=h1.a_nin h2;have nb:=h1.b_nin h2;have sub:∀ k∈r.p.blocks,k∈r.blocks:=λ k hk=>WP.mem.2 (.inr (.inl hk));refine ⟨_,k1,h2.mod F.md (λ hk=>na (sub _ hk)) (λ hk=>nb (sub _ hk)),h3.trans ⟨F.md.mono (λ k hk=>.inl (by simp [sub k hk])),λ k hk=>?_⟩,h4,F.mb.trans h5,h6⟩;simp only [List.mem_cons,WP.mem] at hk ⊢
 rcases hk with hk|hk|hk|hk|hk
 ·exact .inl (.inl hk)
 ·exact .inl (.inr (.inl hk))
 ·exact .inl (.inr (.inr (.inl hk)))
 ·exact (F.gr k hk).imp (λ h=>.inr (.inr (.inr (.inl h)))) id
 ·exact .inl (.inr (.inr (.inr (.inr hk))))
end
section
attribute [local go_sem] Zj
theorem Qa (P:Program) (w:World) (a:Addr) (m:Mode) (f:Fn) (xs ys:Array Value):(store a (.func f xs ys) m).run P w=stored P w a (.func f xs ys) m:=run_store P w a _ m rfl
theorem Xk (P:Program) (w:World) (a:Addr) (m:Mode):(store a .nilFunc m).run P w=stored P w a .nilFunc m:=run_store P w a _ m rfl
attribute [local go_sem] Qa Xk
variable {w w' w0 w1 w2:World} {p p':MP} {q q':WP} {x x':Z2} {m:Zl} {a b:Nat} {s s':Zh} {S:List Nat} {n:Value}
theorem Xc.memA (h:Xc w q a b x n s w1):Zi 137 w1 a b s:=by
 obtain ⟨_,_,hM,_⟩:=h;exact hM
def Xe (k:Int):Value:=if k=1 then .func (.func 88) #[] #[] else if k=2 then .func (.func 89) #[] #[] else if k=3 then .func (.func 90) #[] #[] else if k=4 then .func (.func 91) #[] #[]
 else if k=5 then .func (.func 92) #[] #[] else if k=6 then .func (.func 93) #[] #[] else if k=7 then .func (.func 94) #[] #[] else .func (.func 95) #[] #[]
theorem ix187_1 (w:World):(Instr.index 187 (.agg #[Value.nilFunc,Value.func (.func 88) #[] #[],Value.func (.func 89) #[] #[],Value.func (.func 90) #[] #[],Value.func (.func 91) #[] #[],Value.func (.func 92) #[] #[],Value.func (.func 93) #[] #[],Value.func (.func 94) #[] #[],Value.func (.func 95) #[] #[],Value.nilFunc]) (.int .i64 1)).run Tryz.prog w=.ok (Value.func (.func 88) #[] #[]) w:=by kernel_rfl
theorem ix187_2 (w:World):(Instr.index 187 (.agg #[Value.nilFunc,Value.func (.func 88) #[] #[],Value.func (.func 89) #[] #[],Value.func (.func 90) #[] #[],Value.func (.func 91) #[] #[],Value.func (.func 92) #[] #[],Value.func (.func 93) #[] #[],Value.func (.func 94) #[] #[],Value.func (.func 95) #[] #[],Value.nilFunc]) (.int .i64 2)).run Tryz.prog w=.ok (Value.func (.func 89) #[] #[]) w:=by kernel_rfl
theorem ix187_3 (w:World):(Instr.index 187 (.agg #[Value.nilFunc,Value.func (.func 88) #[] #[],Value.func (.func 89) #[] #[],Value.func (.func 90) #[] #[],Value.func (.func 91) #[] #[],Value.func (.func 92) #[] #[],Value.func (.func 93) #[] #[],Value.func (.func 94) #[] #[],Value.func (.func 95) #[] #[],Value.nilFunc]) (.int .i64 3)).run Tryz.prog w=.ok (Value.func (.func 90) #[] #[]) w:=by kernel_rfl
theorem ix187_4 (w:World):(Instr.index 187 (.agg #[Value.nilFunc,Value.func (.func 88) #[] #[],Value.func (.func 89) #[] #[],Value.func (.func 90) #[] #[],Value.func (.func 91) #[] #[],Value.func (.func 92) #[] #[],Value.func (.func 93) #[] #[],Value.func (.func 94) #[] #[],Value.func (.func 95) #[] #[],Value.nilFunc]) (.int .i64 4)).run Tryz.prog w=.ok (Value.func (.func 91) #[] #[]) w:=by kernel_rfl
theorem ix187_5 (w:World):(Instr.index 187 (.agg #[Value.nilFunc,Value.func (.func 88) #[] #[],Value.func (.func 89) #[] #[],Value.func (.func 90) #[] #[],Value.func (.func 91) #[] #[],Value.func (.func 92) #[] #[],Value.func (.func 93) #[] #[],Value.func (.func 94) #[] #[],Value.func (.func 95) #[] #[],Value.nilFunc]) (.int .i64 5)).run Tryz.prog w=.ok (Value.func (.func 92) #[] #[]) w:=by kernel_rfl
theorem ix187_6 (w:World):(Instr.index 187 (.agg #[Value.nilFunc,Value.func (.func 88) #[] #[],Value.func (.func 89) #[] #[],Value.func (.func 90) #[] #[],Value.func (.func 91) #[] #[],Value.func (.func 92) #[] #[],Value.func (.func 93) #[] #[],Value.func (.func 94) #[] #[],Value.func (.func 95) #[] #[],Value.nilFunc]) (.int .i64 6)).run Tryz.prog w=.ok (Value.func (.func 93) #[] #[]) w:=by kernel_rfl
theorem ix187_7 (w:World):(Instr.index 187 (.agg #[Value.nilFunc,Value.func (.func 88) #[] #[],Value.func (.func 89) #[] #[],Value.func (.func 90) #[] #[],Value.func (.func 91) #[] #[],Value.func (.func 92) #[] #[],Value.func (.func 93) #[] #[],Value.func (.func 94) #[] #[],Value.func (.func 95) #[] #[],Value.nilFunc]) (.int .i64 7)).run Tryz.prog w=.ok (Value.func (.func 94) #[] #[]) w:=by kernel_rfl
theorem ix187_8 (w:World):(Instr.index 187 (.agg #[Value.nilFunc,Value.func (.func 88) #[] #[],Value.func (.func 89) #[] #[],Value.func (.func 90) #[] #[],Value.func (.func 91) #[] #[],Value.func (.func 92) #[] #[],Value.func (.func 93) #[] #[],Value.func (.func 94) #[] #[],Value.func (.func 95) #[] #[],Value.nilFunc]) (.int .i64 8)).run Tryz.prog w=.ok (Value.func (.func 95) #[] #[]) w:=by kernel_rfl
theorem ix187_9 (w:World):(Instr.index 187 (.agg #[Value.nilFunc,Value.func (.func 88) #[] #[],Value.func (.func 89) #[] #[],Value.func (.func 90) #[] #[],Value.func (.func 91) #[] #[],Value.func (.func 92) #[] #[],Value.func (.func 93) #[] #[],Value.func (.func 94) #[] #[],Value.func (.func 95) #[] #[],Value.nilFunc]) (.int .i64 9)).run Tryz.prog w=.ok (Value.nilFunc) w:=by kernel_rfl
def Sm (w:World) (q:WP) (a b:Nat) (x:Z2) (s:Zh) (w':World):Prop:=∃ n,Xc w q a b x n s w'/\(x.part<=8->n=Xe x.part)
def N6 (w:World) (q:WP) (a b:Nat) (x:Z2) (s:Zh) (e:Ending) (w':World):Prop:=e=.returned (.tuple #[])/\Sm w q a b x s w'
theorem V2 (h:Xc w q a b x n s w1) (k:Int) (h1:1<=k) (h9:k<=9):
  Calls Tryz.prog 75 #[.pointer (some ⟨q.k,0,none⟩),.int .i64 k] w1 (N6 w q a b {x with part:=k} s):=by
 have c11:=(h.cell 11 (u:=.int .i64 x.part) (λ _ _ _=>rfl)).1;have fc11:=(h.cell 11 (u:=.int .i64 x.part) (λ _ _ _=>rfl)).2;have c0:=(h.cell 0 (u:=n) (λ r _ hn=>by rw [<-hn];rfl)).1;have f0:=(h.cell 0 (u:=n) (λ r _ hn=>by rw [<-hn];rfl)).2;have hlt:=h.lt;have hh:k=1\/k=2\/k=3\/k=4\/k=5\/k=6\/k=7\/k=8\/k=9:=by omega
 have H:=Zh_ h;clear h;rcases hh with rfl|rfl|rfl|rfl|rfl|rfl|rfl|rfl|rfl
 ·have hi:=λ w=>ix187_1 w;clear h1 h9;go_enter func75,ntmps75;go_wp2;go_end0;exact ⟨rfl,_,(Xc.setX (x':={x with part:=1}) H.out 11 _ (λ _=>rfl) rfl rfl rfl rfl rfl).setN _,λ hp=>by first|rfl|(simp at hp)⟩
 ·have hi:=λ w=>ix187_2 w;clear h1 h9;go_enter func75,ntmps75;go_wp2;go_end0;exact ⟨rfl,_,(Xc.setX (x':={x with part:=2}) H.out 11 _ (λ _=>rfl) rfl rfl rfl rfl rfl).setN _,λ hp=>by first|rfl|(simp at hp)⟩
 ·have hi:=λ w=>ix187_3 w;clear h1 h9;go_enter func75,ntmps75;go_wp2;go_end0;exact ⟨rfl,_,(Xc.setX (x':={x with part:=3}) H.out 11 _ (λ _=>rfl) rfl rfl rfl rfl rfl).setN _,λ hp=>by first|rfl|(simp at hp)⟩
 ·have hi:=λ w=>ix187_4 w;clear h1 h9;go_enter func75,ntmps75;go_wp2;go_end0;exact ⟨rfl,_,(Xc.setX (x':={x with part:=4}) H.out 11 _ (λ _=>rfl) rfl rfl rfl rfl rfl).setN _,λ hp=>by first|rfl|(simp at hp)⟩
 ·have hi:=λ w=>ix187_5 w;clear h1 h9;go_enter func75,ntmps75;go_wp2;go_end0;exact ⟨rfl,_,(Xc.setX (x':={x with part:=5}) H.out 11 _ (λ _=>rfl) rfl rfl rfl rfl rfl).setN _,λ hp=>by first|rfl|(simp at hp)⟩
 ·have hi:=λ w=>ix187_6 w;clear h1 h9;go_enter func75,ntmps75;go_wp2;go_end0;exact ⟨rfl,_,(Xc.setX (x':={x with part:=6}) H.out 11 _ (λ _=>rfl) rfl rfl rfl rfl rfl).setN _,λ hp=>by first|rfl|(simp at hp)⟩
 ·have hi:=λ w=>ix187_7 w;clear h1 h9;go_enter func75,ntmps75;go_wp2;go_end0;exact ⟨rfl,_,(Xc.setX (x':={x with part:=7}) H.out 11 _ (λ _=>rfl) rfl rfl rfl rfl rfl).setN _,λ hp=>by first|rfl|(simp at hp)⟩
 ·have hi:=λ w=>ix187_8 w;clear h1 h9;go_enter func75,ntmps75;go_wp2;go_end0;exact ⟨rfl,_,(Xc.setX (x':={x with part:=8}) H.out 11 _ (λ _=>rfl) rfl rfl rfl rfl rfl).setN _,λ hp=>by first|rfl|(simp at hp)⟩
 ·have hi:=λ w=>ix187_9 w;clear h1 h9;go_enter func75,ntmps75;go_wp2;go_end0;exact ⟨rfl,_,(Xc.setX (x':={x with part:=9}) H.out 11 _ (λ _=>rfl) rfl rfl rfl rfl rfl).setN _,λ hp=>by first|rfl|(simp at hp)⟩
theorem draws_c (h:Xc w q a b x n s w1):Calls Tryz.prog 88 #[.pointer (some ⟨q.k,0,none⟩),.pointer (some ⟨a,0,none⟩)] w1 (N6 w q a b {x with ticket:=s.got 0,part:=2} (s.add 0 1)):=by
 have c1:=(h.cell 1 (u:=.int .i64 0) (λ _ _ _=>rfl)).1;have c2:=(h.cell 2 (u:=.int .i64 1) (λ _ _ _=>rfl)).1;have c3:=(h.cell 3 (u:=.int .i64 2) (λ _ _ _=>rfl)).1;have c4:=(h.cell 4 (u:=.int .i64 3) (λ _ _ _=>rfl)).1;have c5:=(h.cell 5 (u:=.int .i64 (Z4 x.c1)) (λ _ _ _=>rfl)).1;have c6:=(h.cell 6 (u:=.int .i64 (Zw x.c0 x.c1)) (λ _ _ _=>rfl)).1;have hM:=h.memA;have hlt:=h.lt;have H:=Zh_ h;clear h;go_enter func88,ntmps88;go_wp2_with fail;refine (draw_c hM 0 1 2 3 _ _).mono ?_;rintro e w2 ⟨rfl,M2,m2⟩;clear c1 c2 c3 c4 c5 c6 hM hlt;have G2:=H.out.memC M2 m2;have c13:=(G2.cell 13 (u:=.int .u64 x.ticket) (λ _ _ _=>rfl)).1;have fc13:=(G2.cell 13 (u:=.int .u64 x.ticket) (λ _ _ _=>rfl)).2;have hlt:=G2.lt;have H2:=Zh_ G2;clear G2 M2 m2;go_wp2_with fail;refine (V2 (Xc.setX (x':={x with ticket:=s.got 0}) H2.out 13 _ (λ _=>rfl) rfl rfl rfl rfl rfl) 2 (by decide) (by decide)).mono ?_;rintro e w3 ⟨rfl,G3⟩;go_wp2;go_end0;exact ⟨rfl,G3⟩
theorem marks_c (h:Xc w q a b x n s w1):Calls Tryz.prog 90 #[.pointer (some ⟨q.k,0,none⟩),.pointer (some ⟨a,0,none⟩)] w1 (N6 w q a b {x with stamp:=s.got 2,part:=4} (s.load 2)):=by
 have c1:=(h.cell 1 (u:=.int .i64 0) (λ _ _ _=>rfl)).1;have c2:=(h.cell 2 (u:=.int .i64 1) (λ _ _ _=>rfl)).1;have c3:=(h.cell 3 (u:=.int .i64 2) (λ _ _ _=>rfl)).1;have c4:=(h.cell 4 (u:=.int .i64 3) (λ _ _ _=>rfl)).1;have c5:=(h.cell 5 (u:=.int .i64 (Z4 x.c1)) (λ _ _ _=>rfl)).1;have c6:=(h.cell 6 (u:=.int .i64 (Zw x.c0 x.c1)) (λ _ _ _=>rfl)).1;have hM:=h.memA;have hlt:=h.lt;have H:=Zh_ h;clear h;go_enter func90,ntmps90;go_wp2_with fail;refine (stamp_c hM 0 1 2 3 _ _).mono ?_;rintro e w2 ⟨rfl,M2,m2⟩;clear c1 c2 c3 c4 c5 c6 hM hlt;have G2:=H.out.memC M2 m2;have c14:=(G2.cell 14 (u:=.int .u64 x.stamp) (λ _ _ _=>rfl)).1;have fc14:=(G2.cell 14 (u:=.int .u64 x.stamp) (λ _ _ _=>rfl)).2;have hlt:=G2.lt;have H2:=Zh_ G2;clear G2 M2 m2;go_wp2_with fail;refine (V2 (Xc.setX (x':={x with stamp:=s.got 2}) H2.out 14 _ (λ _=>rfl) rfl rfl rfl rfl rfl) 4 (by decide) (by decide)).mono ?_;rintro e w3 ⟨rfl,G3⟩;go_wp2;go_end0;exact ⟨rfl,G3⟩
end
section
attribute [local go_sem] Zj
variable {w w' w0 w1 w2:World} {p p':MP} {q q':WP} {x x':Z2} {m:Zl} {a b:Nat} {s s':Zh} {S:List Nat} {n:Value} {c c':Z3} {r r':Xu}
theorem Zx.scanC (h:Zx w q x) {k:Nat} (hk:q.sc=some k) (hM:Zi 137 w a b s) (hc:w'.heap[k]? =some (.cells c'.arr 243 (0,0))) (m:Ze [a,b,k] w w'):Zx w' q {x with scan:=some c'}:=by
 have tk:=h.scan.ty hk;have na:=h.a_nin hM;have nb:=h.b_nin hM;have ne:∀ g,g∈q.blocks->Xw w g≠some 243->g∉[a,b,k]:=by
  intro g hg ht hm;simp at hm;rcases hm with rfl|rfl|rfl
  ·exact na hg
  ·exact nb hg
  ·exact ht tk
 have f:∀ g,(g=q.k\/g∈q.p.blocks\/q.va.ownBlock=some g\/q.vw.ownBlock=some g\/q.sc=some g\/q.bk=some g)->Xw w g≠some 243->g∉[a,b,k]:=λ g hg=>ne g (WP.mem.2 hg);refine ⟨m.at h.hd (f _ (.inl rfl) (by rw [Zn h.hd];decide)),h.mach.mod m (λ g hg=>f g (by simp [hg]) (λ e=>by have:=h.mach.tyB hg;rw [e] at this;exact absurd this (by decide))),
  Zs h.args m (λ g hg=>f g (by simp [hg]) (by rw [Yc h.args hg];decide)),Zs h.was m (λ g hg=>f g (by simp [hg]) (by rw [Yc h.was hg];decide)),?_,
  h.back.mod m (λ g hg=>f g (by simp [hg]) (by rw [h.back.ty hg];decide)),h.na,h.nw⟩
 rw [hk];exact hc
theorem Zx.backC (h:Zx w q x) {k:Nat} (hk:q.bk=some k) (hM:Zi 137 w a b s) (hc:w'.heap[k]? =some (.cells r'.arr 247 (0,0))) (m:Ze [a,b,k] w w'):Zx w' q {x with back:=some r'}:=by
 have tk:=h.back.ty hk;have na:=h.a_nin hM;have nb:=h.b_nin hM;have ne:∀ g,g∈q.blocks->Xw w g≠some 247->g∉[a,b,k]:=by
  intro g hg ht hm;simp at hm;rcases hm with rfl|rfl|rfl
  ·exact na hg
  ·exact nb hg
  ·exact ht tk
 have f:∀ g,(g=q.k\/g∈q.p.blocks\/q.va.ownBlock=some g\/q.vw.ownBlock=some g\/q.sc=some g\/q.bk=some g)->Xw w g≠some 247->g∉[a,b,k]:=λ g hg=>ne g (WP.mem.2 hg);refine ⟨m.at h.hd (f _ (.inl rfl) (by rw [Zn h.hd];decide)),h.mach.mod m (λ g hg=>f g (by simp [hg]) (λ e=>by have:=h.mach.tyB hg;rw [e] at this;exact absurd this (by decide))),
  Zs h.args m (λ g hg=>f g (by simp [hg]) (by rw [Yc h.args hg];decide)),Zs h.was m (λ g hg=>f g (by simp [hg]) (by rw [Yc h.was hg];decide)),
  h.scan.mod m (λ g hg=>f g (by simp [hg]) (by rw [h.scan.ty hg];decide)),?_,h.na,h.nw⟩
 rw [hk];exact hc
theorem Xc.scan (h:Xc w q a b x n s w1) (hc:x.scan=some c):∃ k,w1.heap[k]? =some (.cells c.arr 243 (0,0))/\w1.cell? ⟨q.k,17,none⟩=some (.pointer (some ⟨k,0,none⟩))/\
  ∀ w' c' s',Zi 137 w' a b s'->w'.heap[k]? =some (.cells c'.arr 243 (0,0))->Ze [a,b,k] w1 w'->Xc w q a b {x with scan:=some c'} n s' w':=by
 obtain ⟨r,h1,h2,h3,h4,h5,h6⟩:=h;have hs:=h1.scan;rw [hc] at hs;have:∃ k,r.sc=some k:=by
  cases e:r.sc with
  |none=>rw [e] at hs;exact hs.elim
  |some k=>exact ⟨k,rfl⟩
 obtain ⟨k,hk⟩:=this;rw [hk] at hs;refine ⟨k,hs,?_,λ w' c' s' M' hc' m=>⟨r,h1.scanC hk h2 hc' m,M',h3.trans (.of m (λ g hg=>.inl ?_)),h4,h5,h6⟩⟩
 ·have:=(h1.cell 17 (u:=Pf r.sc) rfl).1;rw [hk] at this;rw [<-h4];exact this
 ·simp only [List.mem_cons,List.not_mem_nil,or_false] at hg;simp only [List.mem_cons,WP.mem];rcases hg with rfl|rfl|rfl
  ·exact .inl rfl
  ·exact .inr (.inl rfl)
  ·exact .inr (.inr (by simp [hk]))
theorem Xc.back (h:Xc w q a b x n s w1) (hc:x.back=some r):∃ k,w1.heap[k]? =some (.cells r.arr 247 (0,0))/\w1.cell? ⟨q.k,18,none⟩=some (.pointer (some ⟨k,0,none⟩))/\w1.frozen? ⟨q.k,18,none⟩=false/\
  ∀ w' r' s',Zi 137 w' a b s'->w'.heap[k]? =some (.cells r'.arr 247 (0,0))->Ze [a,b,k] w1 w'->Xc w q a b {x with back:=some r'} n s' w':=by
 obtain ⟨r0,h1,h2,h3,h4,h5,h6⟩:=h;have hs:=h1.back;rw [hc] at hs;have:∃ k,r0.bk=some k:=by
  cases e:r0.bk with
  |none=>rw [e] at hs;exact hs.elim
  |some k=>exact ⟨k,rfl⟩
 obtain ⟨k,hk⟩:=this;rw [hk] at hs;refine ⟨k,hs,?_,?_,λ w' c' s' M' hc' m=>⟨r0,h1.backC hk h2 hc' m,M',h3.trans (.of m (λ g hg=>.inl ?_)),h4,h5,h6⟩⟩
 ·have:=(h1.cell 18 (u:=Pf r0.bk) rfl).1;rw [hk] at this;rw [<-h4];exact this
 ·rw [<-h4];exact (h1.cell 18 (u:=Pf r0.bk) rfl).2
 ·simp only [List.mem_cons,List.not_mem_nil,or_false] at hg;simp only [List.mem_cons,WP.mem];rcases hg with rfl|rfl|rfl
  ·exact .inl rfl
  ·exact .inr (.inl rfl)
  ·exact .inr (.inr (by simp [hk]))
theorem Xc.noBack (h:Xc w q a b x n s w1) (hc:x.back=none):w1.cell? ⟨q.k,18,none⟩=some (.pointer none)/\w1.frozen? ⟨q.k,18,none⟩=false:=by
 obtain ⟨r0,h1,h2,h3,h4,h5,h6⟩:=h;have hs:=h1.back;rw [hc] at hs;have e:r0.bk=none:=by
  cases e:r0.bk with
  |none=>rfl
  |some k=>rw [e] at hs;exact hs.elim
 have:=h1.cell 18 (u:=Pf r0.bk) rfl;rw [e,h4] at this;exact this
theorem Xc.scanF (h:Xc w q a b x n s w1):∃ u,w1.cell? ⟨q.k,17,none⟩=some u/\w1.frozen? ⟨q.k,17,none⟩=false:=by
 obtain ⟨r0,h1,h2,h3,h4,h5,h6⟩:=h;have:=h1.cell 17 (u:=Pf r0.sc) rfl;rw [h4] at this;exact ⟨_,this⟩
theorem Xc.stepsF (h:Xc w q a b x n s w1):∃ u,w1.cell? ⟨q.k,12,none⟩=some (.int .i64 u)/\w1.frozen? ⟨q.k,12,none⟩=false:=by
 obtain ⟨r0,h1,h2,h3,h4,h5,h6⟩:=h;have:=h1.cell 12 (u:=.int .i64 r0.st) rfl;rw [h4] at this;exact ⟨_,this⟩
theorem Zx.setHd2 (h:Zx w q x) (m:Ze [q.k] w w') (hd:w'.heap[q.k]? =some (.cells (Uy q' x') 161 (0,0)))
  (e1:q'.k=q.k) (e2:q'.p=q.p) (e3:q'.va=q.va) (e4:q'.vw=q.vw)
  (f1:x'.m=x.m) (f2:x'.args=x.args) (f3:x'.was=x.was) (hs:L0 w' q'.sc x'.scan) (hb:Ra w' q'.bk x'.back):Zx w' q' x':=by
 have ne:∀ g,(g∈q.p.blocks\/q.va.ownBlock=some g\/q.vw.ownBlock=some g\/q.sc=some g\/q.bk=some g)->g∉[q.k]:=λ g hg=>by simpa using h.rest hg
 refine ⟨by rw [e1];exact hd,?_,?_,?_,hs,hb,?_,?_⟩
 ·rw [e2,f1];exact h.mach.mod m (λ k hk=>ne k (.inl hk))
 ·rw [e3,f2];exact Zs h.args m (λ g hg=>ne g (.inr (.inl hg)))
 ·rw [e4,f3];exact Zs h.was m (λ g hg=>ne g (.inr (.inr (.inl hg))))
 ·rw [e2,e3,e4];exact h.na
 ·rw [e2,e4];exact h.nw
theorem Xc.newScan (h:Xc w q a b x n s w1) {k:Nat} (hc:w1.heap[k]? =some (.cells c.arr 243 (0,0))) (hk:w.heap.size<=k):
  Xc w q a b {x with scan:=some c} n s (w1.setCell ⟨q.k,17,none⟩ (.pointer (some ⟨k,0,none⟩))):=by
 obtain ⟨r,h1,h2,h3,h4,h5,h6⟩:=h;have na:=h1.a_nin h2;have nb:=h1.b_nin h2;have kin:r.k∈r.blocks:=WP.mem.2 (.inl rfl);have m:Ze [r.k] w1 (w1.setCell ⟨q.k,17,none⟩ (.pointer (some ⟨k,0,none⟩))):=(Zr_ _ _).setCell _ _ (.inl (by simp [h4]));have nek:k≠r.k:=h1.k_ne (Zn hc) (by decide);refine ⟨{r with sc:=some k},h1.setHd2 m ?_ rfl rfl rfl rfl rfl rfl rfl (m.at hc (by simp [nek])) (h1.back.mod m (λ g hg=>by simpa using h1.rest (by simp [hg]))),h2.mod m (by simp;rintro rfl;exact na kin) (by simp;rintro rfl;exact nb kin),
  ⟨h3.md.then m (λ g hg=>by simp at hg;subst hg;exact h3.gr r.k (by simp [kin])),λ g hg=>?_⟩,h4,h5,h6⟩
 ·have hk:=h1.hd;rw [h4] at hk ⊢
  exact Zd _ hk
 simp only [List.mem_cons,WP.mem] at hg;rcases hg with hg|hg|hg|hg|hg|hg|hg|hg
 ·exact h3.gr g (by simp [hg])
 ·exact h3.gr g (by simp [hg])
 ·exact h3.gr g (by simp [hg,kin])
 ·exact h3.gr g (by simp [WP.mem,hg])
 ·exact h3.gr g (by simp [WP.mem,hg])
 ·exact h3.gr g (by simp [WP.mem,hg])
 ·obtain rfl:=Zo_ hg;exact .inr hk
 ·exact h3.gr g (by simp [WP.mem,hg])
theorem Xc.newBack (h:Xc w q a b x n s w1) {k:Nat} (hc:w1.heap[k]? =some (.cells r'.arr 247 (0,0))) (hk:w.heap.size<=k):
  Xc w q a b {x with back:=some r'} n s (w1.setCell ⟨q.k,18,none⟩ (.pointer (some ⟨k,0,none⟩))):=by
 obtain ⟨r,h1,h2,h3,h4,h5,h6⟩:=h;have na:=h1.a_nin h2;have nb:=h1.b_nin h2;have kin:r.k∈r.blocks:=WP.mem.2 (.inl rfl);have m:Ze [r.k] w1 (w1.setCell ⟨q.k,18,none⟩ (.pointer (some ⟨k,0,none⟩))):=(Zr_ _ _).setCell _ _ (.inl (by simp [h4]));have nek:k≠r.k:=h1.k_ne (Zn hc) (by decide);refine ⟨{r with bk:=some k},h1.setHd2 m ?_ rfl rfl rfl rfl rfl rfl rfl (h1.scan.mod m (λ g hg=>by simpa using h1.rest (by simp [hg]))) (m.at hc (by simp [nek])),h2.mod m (by simp;rintro rfl;exact na kin) (by simp;rintro rfl;exact nb kin),
  ⟨h3.md.then m (λ g hg=>by simp at hg;subst hg;exact h3.gr r.k (by simp [kin])),λ g hg=>?_⟩,h4,h5,h6⟩
 ·have hk:=h1.hd;rw [h4] at hk ⊢
  exact Zd _ hk
 simp only [List.mem_cons,WP.mem] at hg;rcases hg with hg|hg|hg|hg|hg|hg|hg|hg
 ·exact h3.gr g (by simp [hg])
 ·exact h3.gr g (by simp [hg])
 ·exact h3.gr g (by simp [hg,kin])
 ·exact h3.gr g (by simp [WP.mem,hg])
 ·exact h3.gr g (by simp [WP.mem,hg])
 ·exact h3.gr g (by simp [WP.mem,hg])
 ·exact h3.gr g (by simp [WP.mem,hg])
 ·obtain rfl:=Zo_ hg;exact .inr hk
theorem Xc.dropBack (h:Xc w q a b x n s w1):Xc w q a b {x with back:=none} n s (w1.setCell ⟨q.k,18,none⟩ (.pointer none)):=by
 obtain ⟨r,h1,h2,h3,h4,h5,h6⟩:=h;have na:=h1.a_nin h2;have nb:=h1.b_nin h2;have kin:r.k∈r.blocks:=WP.mem.2 (.inl rfl);have m:Ze [r.k] w1 (w1.setCell ⟨q.k,18,none⟩ (.pointer none)):=(Zr_ _ _).setCell _ _ (.inl (by simp [h4]));refine ⟨{r with bk:=none},h1.setHd2 m ?_ rfl rfl rfl rfl rfl rfl rfl (h1.scan.mod m (λ g hg=>by simpa using h1.rest (by simp [hg]))) trivial,h2.mod m (by simp;rintro rfl;exact na kin) (by simp;rintro rfl;exact nb kin),
  ⟨h3.md.then m (λ g hg=>by simp at hg;subst hg;exact h3.gr r.k (by simp [kin])),λ g hg=>?_⟩,h4,h5,h6⟩
 ·have hk:=h1.hd;rw [h4] at hk ⊢
  exact Zd _ hk
 simp only [List.mem_cons,WP.mem] at hg;rcases hg with hg|hg|hg|hg|hg|hg|hg|hg
 ·exact h3.gr g (by simp [hg])
 ·exact h3.gr g (by simp [hg])
 ·exact h3.gr g (by simp [hg,kin])
 ·exact h3.gr g (by simp [WP.mem,hg])
 ·exact h3.gr g (by simp [WP.mem,hg])
 ·exact h3.gr g (by simp [WP.mem,hg])
 ·exact h3.gr g (by simp [WP.mem,hg])
 ·cases hg
theorem Xc.wasV (h:Xc w q a b x n s w1):∃ v,w1.cell? ⟨q.k,16,none⟩=some v/\w1.frozen? ⟨q.k,16,none⟩=false/\w1.ownsRow 0 51 1 v x.was.length (x.was.map (Value.float .f64))/\
  (∃ cs,w1.heap[q.k]? =some (.cells cs 161 (0,0))/\cs[16]? =some v)/\(∀ g,v.ownBlock=some g->g≠q.k)/\
  (∀ w5 w' v' y,Ze v.ownBlock.toList w1 w5->Us w1 v v'->w5.ownsRow 0 51 1 v' (x.was.length+1) ((x.was++[y]).map (Value.float .f64))->w'=w5.setCell ⟨q.k,16,none⟩ v'->Xc w q a b {x with was:=x.was++[y]} n s w'):=by
 obtain ⟨r,h1,h2,h3,h4,h5,h6⟩:=h;have na:=h1.a_nin h2;have nb:=h1.b_nin h2;have kin:r.k∈r.blocks:=WP.mem.2 (.inl rfl);have c16:=h1.cell 16 (u:=r.vw) rfl;rw [h4] at c16;refine ⟨r.vw,c16.1,c16.2,h1.was,⟨_,by rw [<-h4];exact h1.hd,rfl⟩,λ g hg=>by rw [<-h4];exact h1.rest (by simp [hg]),λ w5 w' v' y m5 ho hr hw'=>?_⟩;subst hw';have inw:∀ g∈r.vw.ownBlock.toList,g∈r.blocks:=λ g hg=>WP.mem.2 (by simp at hg;simp [hg]);have nk:r.k∉r.vw.ownBlock.toList:=λ hk=>h1.rest (g:=r.k) (by simp at hk;simp [hk]) rfl;have mk:Ze [r.k] w5 (w5.setCell ⟨q.k,16,none⟩ v'):=(Zr_ _ _).setCell _ _ (.inl (by simp [h4]));have m:Ze (r.k :: r.vw.ownBlock.toList) w1 (w5.setCell ⟨q.k,16,none⟩ v'):=(m5.mono (λ g hg=>.inl (by simp at hg ⊢;simp [hg]))).trans (mk.mono (λ g hg=>.inl (by simp at hg ⊢;simp [hg])));have hd5:=m5.at h1.hd nk;have hdk:(w5.setCell ⟨q.k,16,none⟩ v').heap[r.k]? =some (.cells (Uy {r with vw:=v'} {x with was:=x.was++[y]}) 161 (0,0)):=by
  rw [h4] at hd5 ⊢
  exact Zd (i:=16) v' hd5
 have nv':∀ g,v'.ownBlock=some g->g≠r.k:=λ g hg e=>by
  subst e;have:=Zn hd5;rw [Yc hr hg] at this;exact absurd this (by decide)
 have out:∀ g,(g∈r.p.blocks\/r.va.ownBlock=some g\/r.sc=some g\/r.bk=some g)->g∉r.k :: r.vw.ownBlock.toList:=by
  intro g hg hm;simp only [List.mem_cons,Option.mem_toList] at hm;rcases hm with hm|hm
  ·exact h1.rest (g:=g) (by rcases hg with hg|hg|hg|hg <;> simp [hg]) hm
  ·have tg:=Yc h1.was hm;rcases hg with hg|hg|hg|hg
   ·exact h1.nw g hm hg
   ·exact (h1.na g hg).1 hm
   ·rw [h1.scan.ty hg] at tg;exact absurd tg (by decide)
   ·rw [h1.back.ty hg] at tg;exact absurd tg (by decide)
 refine ⟨{r with vw:=v'},⟨hdk,h1.mach.mod m (λ g hg=>out g (.inl hg)),Zs h1.args m (λ g hg=>out g (by simp [hg])),?_,h1.scan.mod m (λ g hg=>out g (by simp [hg])),h1.back.mod m (λ g hg=>out g (by simp [hg])),?_,?_⟩,
  h2.mod m (λ hh=>na (by simp only [List.mem_cons] at hh;rcases hh with rfl|hh;exact kin;exact inw _ hh)) (λ hh=>nb (by simp only [List.mem_cons] at hh;rcases hh with rfl|hh;exact kin;exact inw _ hh)),
  h3.trans ⟨m.mono (λ g hg=>.inl (by simp only [List.mem_cons] at hg ⊢;rcases hg with rfl|hg;simp [kin];simp [inw g hg])),λ g hg=>?_⟩,h4,h5,h6⟩
 ·have:=Zs hr mk (λ g hg=>by simp [nv' g hg]);simpa using this
 ·intro g hg;refine ⟨λ e=>?_,(h1.na g hg).2⟩;rcases ho with ho|⟨g',ho,hge⟩
  ·exact (h1.na g hg).1 (ho ▸ e)
  ·have e':v'.ownBlock=some g:=e;rw [ho] at e';obtain rfl:=Zo_ e';have:=Ys h1.args hg;omega
 ·intro g hg;rcases ho with ho|⟨g',ho,hge⟩
  ·exact h1.nw g (ho ▸ hg)
  ·have e':v'.ownBlock=some g:=hg;rw [ho] at e';obtain rfl:=Zo_ e';intro hk;have:=h1.mach.lt hk;omega
 ·simp only [List.mem_cons,WP.mem] at hg ⊢
  rcases hg with hg|hg|hg|hg|hg|hg|hg|hg
  ·simp [hg]
  ·simp [hg]
  ·simp [hg]
  ·simp [hg]
  ·simp [hg]
  ·rcases ho with ho|⟨g',ho,hge⟩
   ·rw [ho] at hg;simp [hg]
   ·rw [ho] at hg;obtain rfl:=Zo_ hg;exact .inr hge
  ·simp [hg]
  ·simp [hg]
end
section
attribute [local go_sem] Zj
structure RP where
 k:Nat
 p:MP
 va:Value
 cm:Nat
 rd:Option Nat
 st:Int
def Jj (q:RP) (x:Yg):Array Value:=#[.int .i64 0,.int .i64 1,.int .i64 2,.int .i64 3,.int .i64 (Z4 x.c1),.int .i64 (Zw x.c0 x.c1),.pointer (some ⟨q.p.mb,0,none⟩),.int .i64 x.tag,q.va,.int .i64 x.part,.int .i64 q.st,.int .i64 x.thread,.pointer (some ⟨q.cm,0,none⟩),Pf q.rd]
def L2 (w:World):Option Nat->Option Y1->Prop
 |none,none=>True
 |some k,some c=>w.heap[k]? =some (.cells c.arr 287 (0,0))
 |_,_=>False
variable {w w' w0 w1 w2:World} {p p':MP} {q q':RP} {x x':Yg} {m:Zl} {a b:Nat} {s s':Zh} {S:List Nat} {r r':Y1}
def RP.blocks (q:RP):List Nat:=q.k :: q.cm :: (q.p.blocks++(q.va.ownBlock.toList++q.rd.toList))
structure Z9 (w:World) (q:RP) (x:Yg):Prop where
 hd:w.heap[q.k]? =some (.cells (Jj q x) 168 (0,0))
 mach:Zg w q.p x.m
 args:w.ownsRow 0 51 1 q.va x.args.length (x.args.map (Value.float .f64))
 com:w.heap[q.cm]? =some (.cells x.com.arr 189 (0,0))
 read:L2 w q.rd x.read
 na:∀ g,q.va.ownBlock=some g->g∉q.p.blocks
theorem RP.mem {k:Nat}:k∈q.blocks↔k=q.k\/k=q.cm\/k∈q.p.blocks\/q.va.ownBlock=some k\/q.rd=some k:=by
 unfold RP.blocks;simp [Option.mem_toList]
theorem L2.ty {o:Option Nat} {c:Option Y1} (h:L2 w o c) {k:Nat} (hk:o=some k):Xw w k=some 287:=by
 subst hk;cases c with
 |none=>exact h.elim
 |some c=>exact Zn h
theorem L2.mod {o:Option Nat} {c:Option Y1} (h:L2 w o c) (m:Ze S w w') (hS:∀ k,o=some k->k∉S):L2 w' o c:=by
 match o,c,h with
 |none,none,_=>trivial
 |some k,some c,h=>exact m.at h (hS k rfl)
def rTys:List (Option TypeId):=[some 168,some 185,some 202,some 204,some 200,none,some 106,some 51,some 3,some 53,some 189,some 287]
theorem Z9.tyB (h:Z9 w q x) {k:Nat} (hk:k∈q.blocks):Xw w k∈rTys:=by
 rw [RP.mem] at hk;rcases hk with rfl|rfl|hk|hk|hk
 ·rw [Zn h.hd];decide
 ·rw [Zn h.com];decide
 ·have:=h.mach.tyB hk;simp only [rTys,List.mem_cons,or_false,List.not_mem_nil] at this ⊢
  rcases this with e|e|e|e|e|e|e|e|e <;> simp [e]
 ·rw [Yc h.args hk];decide
 ·rw [h.read.ty hk];decide
theorem Z9.lt (h:Z9 w q x) {k:Nat} (hk:k∈q.blocks):k < w.heap.size:=by
 rw [RP.mem] at hk;rcases hk with rfl|rfl|hk|hk|hk
 ·exact lt_of_block h.hd
 ·exact lt_of_block h.com
 ·exact h.mach.lt hk
 ·exact Ys h.args hk
 ·exact Pm (h.read.ty hk)
theorem Z9.mod (h:Z9 w q x) (m:Ze S w w') (hS:∀ k∈q.blocks,k∉S):Z9 w' q x:=by
 have f:∀ k,(k=q.k\/k=q.cm\/k∈q.p.blocks\/q.va.ownBlock=some k\/q.rd=some k)->k∉S:=λ k hk=>hS k (RP.mem.2 hk);exact ⟨m.at h.hd (f _ (.inl rfl)),h.mach.mod m (λ k hk=>f k (by simp [hk])),Zs h.args m (λ g hg=>f g (by simp [hg])),m.at h.com (f _ (by simp)),h.read.mod m (λ g hg=>f g (by simp [hg])),h.na⟩
theorem Z9.a_nin (h:Z9 w q x) (hM:Zi 137 w a b s):a∉q.blocks:=λ hk=>by
 have:=h.tyB hk;rw [hM.ta] at this;exact absurd this (by decide)
theorem Z9.b_nin (h:Z9 w q x) (hM:Zi 137 w a b s):b∉q.blocks:=λ hk=>by
 have:=h.tyB hk;rw [hM.tb] at this;exact absurd this (by decide)
theorem Z9.k_ne (h:Z9 w q x) {g:Nat} {t:Option TypeId} (hg:Xw w g=t) (ht:t≠some 168):g≠q.k:=λ e=>ht (by rw [<-hg,e];exact Zn h.hd)
theorem Z9.rest (h:Z9 w q x) {g:Nat} (hg:g=q.cm\/g∈q.p.blocks\/q.va.ownBlock=some g\/q.rd=some g):g≠q.k:=by
 rintro rfl;have tk:=Zn h.hd;rcases hg with hg|hg|hg|hg
 ·have:=Zn h.com;rw [<-hg,tk] at this;exact absurd this (by decide)
 ·have:=h.mach.tyB hg;rw [tk] at this;exact absurd this (by decide)
 ·exact absurd (tk.symm.trans (Yc h.args hg)) (by decide)
 ·exact absurd (tk.symm.trans (h.read.ty hg)) (by decide)
theorem Z9.setHd (h:Z9 w q x) (m:Ze [q.k] w w') (hd:w'.heap[q.k]? =some (.cells (Jj q' x') 168 (0,0)))
  (e1:q'.k=q.k) (e2:q'.p=q.p) (e3:q'.va=q.va) (e4:q'.cm=q.cm) (f1:x'.m=x.m) (f2:x'.args=x.args) (f3:x'.com=x.com) (hr:L2 w' q'.rd x'.read):Z9 w' q' x':=by
 have ne:∀ g,(g=q.cm\/g∈q.p.blocks\/q.va.ownBlock=some g\/q.rd=some g)->g∉[q.k]:=λ g hg=>by simpa using h.rest hg
 refine ⟨by rw [e1];exact hd,?_,?_,?_,hr,?_⟩
 ·rw [e2,f1];exact h.mach.mod m (λ k hk=>ne k (by simp [hk]))
 ·rw [e3,f2];exact Zs h.args m (λ g hg=>ne g (by simp [hg]))
 ·rw [e4,f3];exact m.at h.com (ne _ (by simp))
 ·rw [e2,e3];exact h.na
theorem Z9.cell (h:Z9 w q x) (i:Nat) {u:Value} (hu:(Jj q x)[i]? =some u):w.cell? ⟨q.k,i,none⟩=some u/\w.frozen? ⟨q.k,i,none⟩=false:=
 ⟨Za h.hd hu,Zb h.hd⟩
theorem Z9.machC (h:Z9 w q x) (d:Zk w q.p m w'):∃ p',Z9 w' {q with p:=p'} {x with m:=m}/\Hu w q.p w' p':=by
 obtain ⟨p',hm,F⟩:=d;have nk:q.k∉q.p.blocks:=λ hk=>h.rest (.inr (.inl hk)) rfl;have nc:q.cm∉q.p.blocks:=λ hk=>by have:=h.mach.tyB hk;rw [Zn h.com] at this;exact absurd this (by decide)
 have old:∀ g,g < w.heap.size->g∉q.p.blocks->g∉p'.blocks:=λ g hl hg hk=>(F.gr g hk).elim hg (λ hs=>by omega);refine ⟨p',⟨?_,hm,?_,F.md.at h.com nc,?_,?_⟩,F⟩
 ·have:=F.md.at h.hd nk;rw [this];unfold Jj;rw [F.mb]
 ·exact Zs h.args F.md (λ g hg=>h.na g hg)
 ·exact h.read.mod F.md (λ g hg hk=>by have:=h.mach.tyB hk;rw [h.read.ty hg] at this;exact absurd this (by decide))
 ·exact λ g hg=>old g (Ys h.args hg) (h.na g hg)
def Ql (w:World) (q:RP) (a b:Nat) (x:Yg) (s:Zh) (w':World):Prop:=
 ∃ q',Z9 w' q' x/\Zi 137 w' a b s/\W7 w (a :: b :: q.blocks) w' (a :: b :: q'.blocks)/\q'.k=q.k/\q'.p.mb=q.p.mb/\q'.cm=q.cm
theorem Ql.same (h:Z9 w q x) (hM:Zi 137 w a b s):Ql w q a b x s w:=⟨q,h,hM,W7.refl _ _,rfl,rfl,rfl⟩
theorem Ql.memC (h:Ql w q a b x s w1) (hM:Zi 137 w' a b s') (m:Ze [a,b] w1 w'):Ql w q a b x s' w':=by
 obtain ⟨r,h1,h2,h3,h4⟩:=h;have na:=h1.a_nin h2;have nb:=h1.b_nin h2;exact ⟨r,h1.mod m (λ k hk hm=>by simp at hm;rcases hm with rfl|rfl;exact na hk;exact nb hk),hM,h3.trans (.of m (λ k hk=>.inl (by simp at hk ⊢;rcases hk with rfl|rfl <;> simp))),h4⟩
theorem Ql.mod0 (h:Ql w q a b x s w1) (m:Ze [] w1 w'):Ql w q a b x s w':=by
 obtain ⟨r,h1,h2,h3,h4⟩:=h;exact Ql.memC ⟨r,h1,h2,h3,h4⟩ (h2.mod m (by simp) (by simp)) (m.weak _)
theorem Ql.alloc (h:Ql w q a b x s w1) (o:Obj):Ql w q a b x s (w1.alloc o):=h.mod0 ((Zr_ _ _).alloc _)
theorem Ql.drew (h:Ql w q a b x s w1):Ql w q a b x s w1.drew:=h.mod0 ((Zr_ _ _).drew)
theorem Ql.lt (h:Ql w q a b x s w1):q.k < w1.heap.size:=by
 obtain ⟨r,h1,_,_,h4,_⟩:=h;rw [<-h4];exact lt_of_block h1.hd
theorem Ql.memA (h:Ql w q a b x s w1):Zi 137 w1 a b s:=by
 obtain ⟨_,_,hM,_⟩:=h;exact hM
theorem Ql.size (h:Ql w q a b x s w1):w.heap.size<=w1.heap.size:=by
 obtain ⟨r,_,_,h3,_⟩:=h;exact h3.md.size
theorem Ql.cell (h:Ql w q a b x s w1) (i:Nat) {u:Value} (hu:∀ r:RP,r.p.mb=q.p.mb->r.cm=q.cm->(Jj r x)[i]? =some u):w1.cell? ⟨q.k,i,none⟩=some u/\w1.frozen? ⟨q.k,i,none⟩=false:=by
 obtain ⟨r,h1,_,_,h4,h5,h6⟩:=h;rw [<-h4];exact h1.cell i (hu r h5 h6)
theorem Ql.stepsF (h:Ql w q a b x s w1):∃ u,w1.cell? ⟨q.k,10,none⟩=some (.int .i64 u)/\w1.frozen? ⟨q.k,10,none⟩=false:=by
 obtain ⟨r0,h1,h2,h3,h4,h5⟩:=h;have:=h1.cell 10 (u:=.int .i64 r0.st) rfl;rw [h4] at this;exact ⟨_,this⟩
theorem Ql.comA (h:Ql w q a b x s w1):w1.heap[q.cm]? =some (.cells x.com.arr 189 (0,0))/\∀ w' c' s',Zi 137 w' a b s'->w'.heap[q.cm]? =some (.cells c'.arr 189 (0,0))->Ze [a,b,q.cm] w1 w'->Ql w q a b {x with com:=c'} s' w':=by
 obtain ⟨r,h1,h2,h3,h4,h5,h6⟩:=h;have na:=h1.a_nin h2;have nb:=h1.b_nin h2;have hc:=h1.com;have tk:=Zn hc;rw [h6] at hc tk;refine ⟨hc,λ w' c' s' M' hc' m=>?_⟩;have f:∀ g,(g=r.k\/g∈r.p.blocks\/r.va.ownBlock=some g\/r.rd=some g)->Xw w1 g≠some 189->g∉[a,b,q.cm]:=by
  intro g hg ht hm;have hb:g∈r.blocks:=RP.mem.2 (by rcases hg with hg|hg|hg|hg <;> simp [hg]);simp at hm;rcases hm with rfl|rfl|rfl
  ·exact na hb
  ·exact nb hb
  ·exact ht tk
 refine ⟨r,⟨m.at h1.hd (f _ (.inl rfl) (by rw [Zn h1.hd];decide)),h1.mach.mod m (λ g hg=>f g (by simp [hg]) (λ e=>by have:=h1.mach.tyB hg;rw [e] at this;exact absurd this (by decide))),
  Zs h1.args m (λ g hg=>f g (by simp [hg]) (by rw [Yc h1.args hg];decide)),by rw [h6];exact hc',h1.read.mod m (λ g hg=>f g (by simp [hg]) (by rw [h1.read.ty hg];decide)),h1.na⟩,M',
  h3.trans (.of m (λ g hg=>.inl ?_)),h4,h5,h6⟩
 simp only [List.mem_cons,List.not_mem_nil,or_false] at hg;simp only [List.mem_cons,RP.mem];rcases hg with rfl|rfl|rfl
 ·exact .inl rfl
 ·exact .inr (.inl rfl)
 ·exact .inr (.inr (by simp [h6]))
theorem Ql.setX (h:Ql w q a b x s w1) (i:Nat) (u:Value) (x':Yg) (hc:∀ r:RP,(Jj r x).setIfInBounds i u=Jj r x')
  (f1:x'.m=x.m) (f2:x'.args=x.args) (f3:x'.com=x.com) (f4:x'.read=x.read):Ql w q a b x' s (w1.setCell ⟨q.k,i,none⟩ u):=by
 obtain ⟨r,h1,h2,h3,h4,h5,h6⟩:=h;have na:=h1.a_nin h2;have nb:=h1.b_nin h2;have kin:r.k∈r.blocks:=RP.mem.2 (.inl rfl);have m:Ze [r.k] w1 (w1.setCell ⟨q.k,i,none⟩ u):=(Zr_ _ _).setCell _ _ (.inl (by simp [h4]));refine ⟨r,h1.setHd m ?_ rfl rfl rfl rfl f1 f2 f3 (by rw [f4];exact h1.read.mod m (λ g hg=>by simpa using h1.rest (by simp [hg]))),h2.mod m (by simp;rintro rfl;exact na kin) (by simp;rintro rfl;exact nb kin),h3.trans (.of m (λ k hk=>.inl (by simp at hk;simp [hk,kin]))),h4,h5,h6⟩;rw [<-hc r,h4];exact Zd _ (by rw [<-h4];exact h1.hd)
theorem Ql.setS (h:Ql w q a b x s w1) (u:Int):Ql w q a b x s (w1.setCell ⟨q.k,10,none⟩ (.int .i64 u)):=by
 obtain ⟨r,h1,h2,h3,h4,h5,h6⟩:=h;have na:=h1.a_nin h2;have nb:=h1.b_nin h2;have kin:r.k∈r.blocks:=RP.mem.2 (.inl rfl);have m:Ze [r.k] w1 (w1.setCell ⟨q.k,10,none⟩ (.int .i64 u)):=(Zr_ _ _).setCell _ _ (.inl (by simp [h4]));refine ⟨{r with st:=u},h1.setHd m ?_ rfl rfl rfl rfl rfl rfl rfl (h1.read.mod m (λ g hg=>by simpa using h1.rest (by simp [hg]))),h2.mod m (by simp;rintro rfl;exact na kin) (by simp;rintro rfl;exact nb kin),h3.trans (.of m (λ k hk=>.inl (by simp at hk;simp [hk,kin]))),h4,h5,h6⟩;rw [h4];have hk:=h1.hd;rw [h4] at hk;exact Zd _ hk
theorem Ql.mach (h:Ql w q a b x s w1):∃ p,Zg w1 p x.m/\p.mb=q.p.mb/\∀ w' m,Zk w1 p m w'->Ql w q a b {x with m:=m} s w'/\∀ i,w'.cell? ⟨q.k,i,none⟩=w1.cell? ⟨q.k,i,none⟩:=by
 obtain ⟨r,h1,h2,h3,h4,h5,h6⟩:=h;refine ⟨r.p,h1.mach,h5,λ w' m d=>?_⟩;obtain ⟨p',k1,F⟩:=h1.machC d;have na:=h1.a_nin h2;have nb:=h1.b_nin h2;have sub:∀ k∈r.p.blocks,k∈r.blocks:=λ k hk=>RP.mem.2 (.inr (.inr (.inl hk)));refine ⟨?_,λ i=>by
  have e1:=F.md.at h1.hd (λ hk=>h1.rest (.inr (.inl hk)) rfl);have e2:=h1.hd;rw [h4] at e1 e2;unfold World.cell?;simp only [e1,e2]⟩
 refine ⟨_,k1,h2.mod F.md (λ hk=>na (sub _ hk)) (λ hk=>nb (sub _ hk)),h3.trans ⟨F.md.mono (λ k hk=>.inl (by simp [sub k hk])),λ k hk=>?_⟩,h4,F.mb.trans h5,h6⟩;simp only [List.mem_cons,RP.mem] at hk ⊢
 rcases hk with hk|hk|hk|hk|hk|hk
 ·exact .inl (.inl hk)
 ·exact .inl (.inr (.inl hk))
 ·exact .inl (.inr (.inr (.inl hk)))
 ·exact .inl (.inr (.inr (.inr (.inl hk))))
 ·exact (F.gr k hk).imp (λ h=>.inr (.inr (.inr (.inr (.inl h))))) id
 ·exact .inl (.inr (.inr (.inr (.inr (.inr hk)))))
theorem Ql.read (h:Ql w q a b x s w1) (hc:x.read=some r):∃ k,w1.heap[k]? =some (.cells r.arr 287 (0,0))/\w1.cell? ⟨q.k,13,none⟩=some (.pointer (some ⟨k,0,none⟩))/\w1.frozen? ⟨q.k,13,none⟩=false/\
  ∀ w' r' s',Zi 137 w' a b s'->w'.heap[k]? =some (.cells r'.arr 287 (0,0))->Ze [a,b,k] w1 w'->Ql w q a b {x with read:=some r'} s' w'/\w'.cell? ⟨q.k,13,none⟩=some (.pointer (some ⟨k,0,none⟩)):=by
 obtain ⟨r0,h1,h2,h3,h4,h5,h6⟩:=h;have na:=h1.a_nin h2;have nb:=h1.b_nin h2;have hs:=h1.read;rw [hc] at hs;have:∃ k,r0.rd=some k:=by
  cases e:r0.rd with
  |none=>rw [e] at hs;exact hs.elim
  |some k=>exact ⟨k,rfl⟩
 obtain ⟨k,hk⟩:=this;rw [hk] at hs;have tk:=Zn hs;have c13:=h1.cell 13 (u:=Pf r0.rd) rfl;rw [hk,h4] at c13;refine ⟨k,hs,c13.1,c13.2,λ w' r' s' M' hc' m=>?_⟩;have f:∀ g,(g=r0.k\/g=r0.cm\/g∈r0.p.blocks\/r0.va.ownBlock=some g)->Xw w1 g≠some 287->g∉[a,b,k]:=by
  intro g hg ht hm;have hb:g∈r0.blocks:=RP.mem.2 (by rcases hg with hg|hg|hg|hg <;> simp [hg]);simp at hm;rcases hm with rfl|rfl|rfl
  ·exact na hb
  ·exact nb hb
  ·exact ht tk
 have R:Z9 w' r0 {x with read:=some r'}:=⟨m.at h1.hd (f _ (.inl rfl) (by rw [Zn h1.hd];decide)),h1.mach.mod m (λ g hg=>f g (by simp [hg]) (λ e=>by have:=h1.mach.tyB hg;rw [e] at this;exact absurd this (by decide))),
  Zs h1.args m (λ g hg=>f g (by simp [hg]) (by rw [Yc h1.args hg];decide)),m.at h1.com (f _ (by simp) (by rw [Zn h1.com];decide)),by rw [hk];exact hc',h1.na⟩
 refine ⟨⟨r0,R,M',h3.trans (.of m (λ g hg=>.inl ?_)),h4,h5,h6⟩,?_⟩
 ·simp only [List.mem_cons,List.not_mem_nil,or_false] at hg;simp only [List.mem_cons,RP.mem];rcases hg with rfl|rfl|rfl
  ·exact .inl rfl
  ·exact .inr (.inl rfl)
  ·exact .inr (.inr (by simp [hk]))
 ·have:=(R.cell 13 (u:=Pf r0.rd) rfl).1;rw [hk,h4] at this;exact this
theorem Ql.noRead (h:Ql w q a b x s w1) (hc:x.read=none):w1.cell? ⟨q.k,13,none⟩=some (.pointer none)/\w1.frozen? ⟨q.k,13,none⟩=false:=by
 obtain ⟨r0,h1,h2,h3,h4,h5,h6⟩:=h;have hs:=h1.read;rw [hc] at hs;have e:r0.rd=none:=by
  cases e:r0.rd with
  |none=>rfl
  |some k=>rw [e] at hs;exact hs.elim
 have:=h1.cell 13 (u:=Pf r0.rd) rfl;rw [e,h4] at this;exact this
theorem Ql.newRead (h:Ql w q a b x s w1) {k:Nat} (hc:w1.heap[k]? =some (.cells r'.arr 287 (0,0))) (hk:w.heap.size<=k):
  Ql w q a b {x with read:=some r'} s (w1.setCell ⟨q.k,13,none⟩ (.pointer (some ⟨k,0,none⟩))):=by
 obtain ⟨r,h1,h2,h3,h4,h5,h6⟩:=h;have na:=h1.a_nin h2;have nb:=h1.b_nin h2;have kin:r.k∈r.blocks:=RP.mem.2 (.inl rfl);have m:Ze [r.k] w1 (w1.setCell ⟨q.k,13,none⟩ (.pointer (some ⟨k,0,none⟩))):=(Zr_ _ _).setCell _ _ (.inl (by simp [h4]));have nek:k≠r.k:=h1.k_ne (Zn hc) (by decide);refine ⟨{r with rd:=some k},h1.setHd m ?_ rfl rfl rfl rfl rfl rfl rfl (m.at hc (by simp [nek])),h2.mod m (by simp;rintro rfl;exact na kin) (by simp;rintro rfl;exact nb kin),
  ⟨h3.md.then m (λ g hg=>by simp at hg;subst hg;exact h3.gr r.k (by simp [kin])),λ g hg=>?_⟩,h4,h5,h6⟩
 ·have hk:=h1.hd;rw [h4] at hk ⊢
  exact Zd _ hk
 simp only [List.mem_cons,RP.mem] at hg;rcases hg with hg|hg|hg|hg|hg|hg|hg
 ·exact h3.gr g (by simp [hg])
 ·exact h3.gr g (by simp [hg])
 ·exact h3.gr g (by simp [hg,kin])
 ·exact h3.gr g (by simp [RP.mem,hg])
 ·exact h3.gr g (by simp [RP.mem,hg])
 ·exact h3.gr g (by simp [RP.mem,hg])
 ·obtain rfl:=Zo_ hg;exact .inr hk
theorem Ql.dropRead (h:Ql w q a b x s w1):Ql w q a b {x with read:=none} s (w1.setCell ⟨q.k,13,none⟩ (.pointer none)):=by
 obtain ⟨r,h1,h2,h3,h4,h5,h6⟩:=h;have na:=h1.a_nin h2;have nb:=h1.b_nin h2;have kin:r.k∈r.blocks:=RP.mem.2 (.inl rfl);have m:Ze [r.k] w1 (w1.setCell ⟨q.k,13,none⟩ (.pointer none)):=(Zr_ _ _).setCell _ _ (.inl (by simp [h4]));refine ⟨{r with rd:=none},h1.setHd m ?_ rfl rfl rfl rfl rfl rfl rfl trivial,h2.mod m (by simp;rintro rfl;exact na kin) (by simp;rintro rfl;exact nb kin),
  ⟨h3.md.then m (λ g hg=>by simp at hg;subst hg;exact h3.gr r.k (by simp [kin])),λ g hg=>?_⟩,h4,h5,h6⟩
 ·have hk:=h1.hd;rw [h4] at hk ⊢
  exact Zd _ hk
 simp only [List.mem_cons,RP.mem] at hg;rcases hg with hg|hg|hg|hg|hg|hg|hg
 ·exact h3.gr g (by simp [hg])
 ·exact h3.gr g (by simp [hg])
 ·exact h3.gr g (by simp [hg,kin])
 ·exact h3.gr g (by simp [RP.mem,hg])
 ·exact h3.gr g (by simp [RP.mem,hg])
 ·exact h3.gr g (by simp [RP.mem,hg])
 ·cases hg
end
section
variable {w w' w0 w1 w2:World} {a b:Nat} {s s':Zh} {n:Value}
theorem Xc.modS {q:WP} {x:Z2} (h:Xc w q a b x n s w') (hM:Zi 137 w a b s):Ze q.blocks w w':=by
 obtain ⟨r,h1,h2,h3,_⟩:=h;refine ⟨h3.md.os,h3.md.tape,h3.md.output,h3.md.size,λ k hk hn=>?_⟩
 by_cases ha:k=a
 ·subst ha;exact h2.hd.trans hM.hd.symm
 ·by_cases hb:k=b
  ·subst hb;exact h2.ws.trans hM.ws.symm
  ·exact h3.md.block k hk (by simp [ha,hb,hn])
theorem Xc.grS {q:WP} {x:Z2} (h:Xc w q a b x n s w'):∃ r,Zx w' r x/\Zi 137 w' a b s/\r.k=q.k/\r.nx=n/\∀ k∈r.blocks,k∈q.blocks\/w.heap.size<=k:=by
 obtain ⟨r,h1,h2,h3,h4,_,h6⟩:=h;refine ⟨r,h1,h2,h4,h6,λ k hk=>?_⟩;rcases h3.gr k (by simp [hk]) with hh|hh
 ·simp only [List.mem_cons] at hh;rcases hh with rfl|rfl|hh
  ·exact absurd hk (h1.a_nin h2)
  ·exact absurd hk (h1.b_nin h2)
  ·exact .inl hh
 ·exact .inr hh
theorem Ql.modS {q:RP} {x:Yg} (h:Ql w q a b x s w') (hM:Zi 137 w a b s):Ze q.blocks w w':=by
 obtain ⟨r,h1,h2,h3,_⟩:=h;refine ⟨h3.md.os,h3.md.tape,h3.md.output,h3.md.size,λ k hk hn=>?_⟩
 by_cases ha:k=a
 ·subst ha;exact h2.hd.trans hM.hd.symm
 ·by_cases hb:k=b
  ·subst hb;exact h2.ws.trans hM.ws.symm
  ·exact h3.md.block k hk (by simp [ha,hb,hn])
theorem Ql.grS {q:RP} {x:Yg} (h:Ql w q a b x s w'):∃ r,Z9 w' r x/\Zi 137 w' a b s/\r.k=q.k/\∀ k∈r.blocks,k∈q.blocks\/w.heap.size<=k:=by
 obtain ⟨r,h1,h2,h3,h4,_⟩:=h;refine ⟨r,h1,h2,h4,λ k hk=>?_⟩;rcases h3.gr k (by simp [hk]) with hh|hh
 ·simp only [List.mem_cons] at hh;rcases hh with rfl|rfl|hh
  ·exact absurd hk (h1.a_nin h2)
  ·exact absurd hk (h1.b_nin h2)
  ·exact .inl hh
 ·exact .inr hh
theorem Xc.argsV {q:WP} {x:Z2} (h:Xc w q a b x n s w1):∃ v cs,w1.heap[q.k]? =some (.cells cs 161 (0,0))/\cs[10]? =some v/\w1.ownsRow 0 51 1 v x.args.length (x.args.map (Value.float .f64))/\(∀ g,v.ownBlock=some g->g≠q.k)/\
  (∀ w5 w' v' y,Ze v.ownBlock.toList w1 w5->Us w1 v v'->w5.ownsRow 0 51 1 v' (x.args.length+1) ((x.args++[y]).map (Value.float .f64))->w'=w5.setCell ⟨q.k,10,none⟩ v'->Xc w q a b {x with args:=x.args++[y]} n s w'):=by
 obtain ⟨r,h1,h2,h3,h4,h5,h6⟩:=h;have na:=h1.a_nin h2;have nb:=h1.b_nin h2;have kin:r.k∈r.blocks:=WP.mem.2 (.inl rfl);refine ⟨r.va,_,by rw [<-h4];exact h1.hd,rfl,h1.args,λ g hg=>by rw [<-h4];exact h1.rest (by simp [hg]),λ w5 w' v' y m5 ho hr hw'=>?_⟩;subst hw';have inw:∀ g∈r.va.ownBlock.toList,g∈r.blocks:=λ g hg=>WP.mem.2 (by simp at hg;simp [hg]);have nk:r.k∉r.va.ownBlock.toList:=λ hk=>h1.rest (g:=r.k) (by simp at hk;simp [hk]) rfl;have mk:Ze [r.k] w5 (w5.setCell ⟨q.k,10,none⟩ v'):=(Zr_ _ _).setCell _ _ (.inl (by simp [h4]));have m:Ze (r.k :: r.va.ownBlock.toList) w1 (w5.setCell ⟨q.k,10,none⟩ v'):=(m5.mono (λ g hg=>.inl (by simp at hg ⊢;simp [hg]))).trans (mk.mono (λ g hg=>.inl (by simp at hg ⊢;simp [hg])));have hd5:=m5.at h1.hd nk;have hdk:(w5.setCell ⟨q.k,10,none⟩ v').heap[r.k]? =some (.cells (Uy {r with va:=v'} {x with args:=x.args++[y]}) 161 (0,0)):=by
  rw [h4] at hd5 ⊢
  exact Zd (i:=10) v' hd5
 have nv':∀ g,v'.ownBlock=some g->g≠r.k:=λ g hg e=>by
  subst e;have:=Zn hd5;rw [Yc hr hg] at this;exact absurd this (by decide)
 have out:∀ g,(g∈r.p.blocks\/r.vw.ownBlock=some g\/r.sc=some g\/r.bk=some g)->g∉r.k :: r.va.ownBlock.toList:=by
  intro g hg hm;simp only [List.mem_cons,Option.mem_toList] at hm;rcases hm with hm|hm
  ·exact h1.rest (g:=g) (by rcases hg with hg|hg|hg|hg <;> simp [hg]) hm
  ·have tg:=Yc h1.args hm;rcases hg with hg|hg|hg|hg
   ·exact (h1.na g hm).2 hg
   ·exact (h1.na g hm).1 hg
   ·rw [h1.scan.ty hg] at tg;exact absurd tg (by decide)
   ·rw [h1.back.ty hg] at tg;exact absurd tg (by decide)
 have new:∀ g,v'.ownBlock=some g->r.vw.ownBlock≠some g/\g∉r.p.blocks:=by
  intro g hg;rcases ho with ho|⟨g',ho,hge⟩
  ·exact h1.na g (ho ▸ hg)
  ·rw [ho] at hg;obtain rfl:=Zo_ hg;exact ⟨λ e=>by have:=Ys h1.was e;omega,λ hk=>by have:=h1.mach.lt hk;omega⟩
 refine ⟨{r with va:=v'},⟨hdk,h1.mach.mod m (λ g hg=>out g (.inl hg)),?_,Zs h1.was m (λ g hg=>out g (by simp [hg])),h1.scan.mod m (λ g hg=>out g (by simp [hg])),h1.back.mod m (λ g hg=>out g (by simp [hg])),new,h1.nw⟩,
  h2.mod m (λ hh=>na (by simp only [List.mem_cons] at hh;rcases hh with rfl|hh;exact kin;exact inw _ hh)) (λ hh=>nb (by simp only [List.mem_cons] at hh;rcases hh with rfl|hh;exact kin;exact inw _ hh)),
  h3.trans ⟨m.mono (λ g hg=>.inl (by simp only [List.mem_cons] at hg ⊢;rcases hg with rfl|hg;simp [kin];simp [inw g hg])),λ g hg=>?_⟩,h4,h5,h6⟩
 ·have:=Zs hr mk (λ g hg=>by simp [nv' g hg]);simpa using this
 ·simp only [List.mem_cons,WP.mem] at hg ⊢
  rcases hg with hg|hg|hg|hg|hg|hg|hg|hg
  ·simp [hg]
  ·simp [hg]
  ·simp [hg]
  ·simp [hg]
  ·rcases ho with ho|⟨g',ho,hge⟩
   ·rw [ho] at hg;simp [hg]
   ·rw [ho] at hg;obtain rfl:=Zo_ hg;exact .inr hge
  ·simp [hg]
  ·simp [hg]
  ·simp [hg]
theorem Ql.argsV {q:RP} {x:Yg} (h:Ql w q a b x s w1):∃ v cs,w1.heap[q.k]? =some (.cells cs 168 (0,0))/\cs[8]? =some v/\w1.ownsRow 0 51 1 v x.args.length (x.args.map (Value.float .f64))/\(∀ g,v.ownBlock=some g->g≠q.k)/\
  (∀ w5 w' v' y,Ze v.ownBlock.toList w1 w5->Us w1 v v'->w5.ownsRow 0 51 1 v' (x.args.length+1) ((x.args++[y]).map (Value.float .f64))->w'=w5.setCell ⟨q.k,8,none⟩ v'->Ql w q a b {x with args:=x.args++[y]} s w'):=by
 obtain ⟨r,h1,h2,h3,h4,h5,h6⟩:=h;have na:=h1.a_nin h2;have nb:=h1.b_nin h2;have kin:r.k∈r.blocks:=RP.mem.2 (.inl rfl);refine ⟨r.va,_,by rw [<-h4];exact h1.hd,rfl,h1.args,λ g hg=>by rw [<-h4];exact h1.rest (by simp [hg]),λ w5 w' v' y m5 ho hr hw'=>?_⟩;subst hw';have inw:∀ g∈r.va.ownBlock.toList,g∈r.blocks:=λ g hg=>RP.mem.2 (by simp at hg;simp [hg]);have nk:r.k∉r.va.ownBlock.toList:=λ hk=>h1.rest (g:=r.k) (by simp at hk;simp [hk]) rfl;have mk:Ze [r.k] w5 (w5.setCell ⟨q.k,8,none⟩ v'):=(Zr_ _ _).setCell _ _ (.inl (by simp [h4]));have m:Ze (r.k :: r.va.ownBlock.toList) w1 (w5.setCell ⟨q.k,8,none⟩ v'):=(m5.mono (λ g hg=>.inl (by simp at hg ⊢;simp [hg]))).trans (mk.mono (λ g hg=>.inl (by simp at hg ⊢;simp [hg])));have hd5:=m5.at h1.hd nk;have hdk:(w5.setCell ⟨q.k,8,none⟩ v').heap[r.k]? =some (.cells (Jj {r with va:=v'} {x with args:=x.args++[y]}) 168 (0,0)):=by
  rw [h4] at hd5 ⊢
  exact Zd (i:=8) v' hd5
 have nv':∀ g,v'.ownBlock=some g->g≠r.k:=λ g hg e=>by
  subst e;have:=Zn hd5;rw [Yc hr hg] at this;exact absurd this (by decide)
 have out:∀ g,(g=r.cm\/g∈r.p.blocks\/r.rd=some g)->g∉r.k :: r.va.ownBlock.toList:=by
  intro g hg hm;simp only [List.mem_cons,Option.mem_toList] at hm;rcases hm with hm|hm
  ·exact h1.rest (g:=g) (by rcases hg with hg|hg|hg <;> simp [hg]) hm
  ·have tg:=Yc h1.args hm;rcases hg with hg|hg|hg
   ·rw [hg,Zn h1.com] at tg;exact absurd tg (by decide)
   ·exact h1.na g hm hg
   ·rw [h1.read.ty hg] at tg;exact absurd tg (by decide)
 have new:∀ g,v'.ownBlock=some g->g∉r.p.blocks:=by
  intro g hg;rcases ho with ho|⟨g',ho,hge⟩
  ·exact h1.na g (ho ▸ hg)
  ·rw [ho] at hg;obtain rfl:=Zo_ hg;exact λ hk=>by have:=h1.mach.lt hk;omega
 refine ⟨{r with va:=v'},⟨hdk,h1.mach.mod m (λ g hg=>out g (by simp [hg])),?_,m.at h1.com (out _ (by simp)),h1.read.mod m (λ g hg=>out g (by simp [hg])),new⟩,
  h2.mod m (λ hh=>na (by simp only [List.mem_cons] at hh;rcases hh with rfl|hh;exact kin;exact inw _ hh)) (λ hh=>nb (by simp only [List.mem_cons] at hh;rcases hh with rfl|hh;exact kin;exact inw _ hh)),
  h3.trans ⟨m.mono (λ g hg=>.inl (by simp only [List.mem_cons] at hg ⊢;rcases hg with rfl|hg;simp [kin];simp [inw g hg])),λ g hg=>?_⟩,h4,h5,h6⟩
 ·have:=Zs hr mk (λ g hg=>by simp [nv' g hg]);simpa using this
 ·simp only [List.mem_cons,RP.mem] at hg ⊢
  rcases hg with hg|hg|hg|hg|hg|hg|hg
  ·simp [hg]
  ·simp [hg]
  ·simp [hg]
  ·simp [hg]
  ·simp [hg]
  ·rcases ho with ho|⟨g',ho,hge⟩
   ·rw [ho] at hg;simp [hg]
   ·rw [ho] at hg;obtain rfl:=Zo_ hg;exact .inr hge
  ·simp [hg]
end
end Go.Proofs.YtkhonmhnchdpkaaGreat
