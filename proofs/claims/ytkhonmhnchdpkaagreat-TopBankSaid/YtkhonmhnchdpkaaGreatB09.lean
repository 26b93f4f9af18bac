/- A part of the proof; no condition. -/
import Derived.Test.YtkhonmhnchdpkaaGreatB05
import Derived.Test.YtkhonmhnchdpkaaGreatB07
import Derived.Test.YtkhonmhnchdpkaaGreatB08
set_option maxRecDepth 100000
set_option maxHeartbeats 40000000
namespace Go.Proofs.YtkhonmhnchdpkaaGreat
open Go.RowKit _root_.Go.Proofs.Tryz
open Go renaming World→W
open Value renaming int→U,pointer→E,slice→L,float→Z,agg→A_
open IntKind renaming i64→Y,u64→Y_
open FloatKind renaming f64→V
open Obj renaming cells→X
open Option renaming some→I,none→O
open Ending renaming returned→R_
open _root_.Go.Proofs.Tryz renaming prog→N
section
def Zh.look (s:Zh) (i t:Int):Bool:=if s.acc i=0 then s.xv i==t else false
def Zh.ahead (s:Zh) (i t:Int):Int:=
 if s.bad i=0 then if t<=s.xh i then 0 else if IntKind.u64.wrap (t - s.xh i)<=2147483647 then IntKind.u64.wrap (t - s.xh i) else 2147483647 else 0
theorem Pv (n:Int):0<=IntKind.u64.wrap n:=by
 simp only [IntKind.wrap_u64];omega
theorem draw_c {a b:Nat} {s:Zh} {w:W} (hM:Zj 137 w a b s) (p0 p1 p2 p3 p4 p5:Int):
  Calls N 105 #[E (I ⟨a,0,O⟩),A_ #[U Y p0,U Y p1,U Y p2,U Y p3,U Y p4,U Y p5]] w λ e w'=>e=R_ (.tuple #[U Y_ (s.xv p0),U Y (s.acc p0)])/\Zj 137 w' a b (s.add p0 1)/\Ze [a,b] w w':=by
 have ha:=hM.jf;have hb:=hM.je
 by_cases hacc:s.acc p0=0
 ·skip
  skip
  skip
  go_enter func105,ntmps105;go_wp2_with (first|(go_at_call 135;refine (madd_c ((hM.alloc _).alloc _) _ _).mono ?_;rintro e w1 ⟨rfl,M1,d1⟩)|go_in)
  go_ret2
  skip
  exact ⟨by simp [hacc,Zh.xv],by simpa using M1,Ze.then ((by repeat (first|with_reducible exact Zr_ _ _|with_reducible assumption|with_reducible refine Ze.alloc ?_ _)):Ze [a,b] w _) d1 (by simp)⟩
 ·have hz:(s.acc p0==0)=false:=by simp [hacc]
  have hz2:(s.acc p0 !=0)=true:=by simp [hacc]
  have Hacc:=Zh_ hacc;clear hacc;go_enter func105,ntmps105;go_wp2_with (first|(go_at_call 135;refine (madd_c ((hM.alloc _).alloc _) _ _).mono ?_;rintro e w1 ⟨rfl,M1,d1⟩)|go_in)
  go_ret2;have hacc:=Hacc.out;exact ⟨by simp [hacc,Zh.xv],by simpa using M1,Ze.then ((by repeat (first|with_reducible exact Zr_ _ _|with_reducible assumption|with_reducible refine Ze.alloc ?_ _)):Ze [a,b] w _) d1 (by simp)⟩
theorem look_c {a b:Nat} {s:Zh} {w:W} (hM:Zj 137 w a b s) (p0 p1 p2 p3 p4 p5 qc:Int):
  Calls N 106 #[E (I ⟨a,0,O⟩),A_ #[U Y p0,U Y p1,U Y p2,U Y p3,U Y p4,U Y p5],U Y_ qc] w λ e w'=>e=R_ (.tuple #[.bool (s.look p1 qc),U Y (s.acc p1)])/\Zj 137 w' a b (s.load p1)/\Ze [a,b] w w':=by
 have ha:=hM.jf;have hb:=hM.je
 by_cases hacc:s.acc p1=0
 ·skip
  skip
  skip
  go_enter func106,ntmps106;go_wp2_with (first|(go_at_call 138;refine (Un (((hM.alloc _).alloc _).alloc _) _).mono ?_;rintro e w1 ⟨rfl,M1,d1⟩;have Q1:=Za (i:=0) (d1.at (heap_alloc_new ((w.alloc (X #[E (I ⟨a,0,O⟩)] 75)).alloc (X #[U Y p0,U Y p1,U Y p2,U Y p3,U Y p4,U Y p5] 74)) (X #[U Y_ qc] 54)) (by simp;omega)) J;simp only [World.size_alloc] at Q1)|go_in)
  go_ret2
  skip
  exact ⟨by simp [hacc,Zh.look,Zh.xv],by simpa using M1,Ze.then ((by repeat (first|with_reducible exact Zr_ _ _|with_reducible assumption|with_reducible refine Ze.alloc ?_ _)):Ze [a,b] w _) d1 (by simp)⟩
 ·have hz:(s.acc p1==0)=false:=by simp [hacc]
  have hz2:(s.acc p1 !=0)=true:=by simp [hacc]
  have Hacc:=Zh_ hacc;clear hacc;go_enter func106,ntmps106;go_wp2_with (first|(go_at_call 138;refine (Un (((hM.alloc _).alloc _).alloc _) _).mono ?_;rintro e w1 ⟨rfl,M1,d1⟩;have Q1:=Za (i:=0) (d1.at (heap_alloc_new ((w.alloc (X #[E (I ⟨a,0,O⟩)] 75)).alloc (X #[U Y p0,U Y p1,U Y p2,U Y p3,U Y p4,U Y p5] 74)) (X #[U Y_ qc] 54)) (by simp;omega)) J;simp only [World.size_alloc] at Q1)|go_in)
  go_ret2;have hacc:=Hacc.out;exact ⟨by simp [hacc,Zh.look],by simpa using M1,Ze.then ((by repeat (first|with_reducible exact Zr_ _ _|with_reducible assumption|with_reducible refine Ze.alloc ?_ _)):Ze [a,b] w _) d1 (by simp)⟩
theorem pass_c {a b:Nat} {s:Zh} {w:W} (hM:Zj 137 w a b s) (p0 p1 p2 p3 p4 p5 qc:Int):
  Calls N 118 #[E (I ⟨a,0,O⟩),A_ #[U Y p0,U Y p1,U Y p2,U Y p3,U Y p4,U Y p5],U Y_ qc] w λ e w'=>e=R_ (U Y (s.acc p1))/\Zj 137 w' a b (s.store p1 (IntKind.u64.wrap (qc+1)))/\Ze [a,b] w w':=by
 have ha:=hM.jf;have hb:=hM.je
 by_cases hacc:s.acc p1=0
 ·skip
  skip
  skip
  go_enter func118,ntmps118;go_wp2_with (first|(go_at_call 148;refine (Vo (((hM.alloc _).alloc _).alloc _) _ _).mono ?_;rintro e w1 ⟨rfl,M1,d1⟩)|go_in)
  go_ret
  skip
  exact ⟨by simp [hacc],by simpa using M1,Ze.then ((by repeat (first|with_reducible exact Zr_ _ _|with_reducible assumption|with_reducible refine Ze.alloc ?_ _)):Ze [a,b] w _) d1 (by simp)⟩
 ·have hz:(s.acc p1==0)=false:=by simp [hacc]
  have hz2:(s.acc p1 !=0)=true:=by simp [hacc]
  have Hacc:=Zh_ hacc;clear hacc;go_enter func118,ntmps118;go_wp2_with (first|(go_at_call 148;refine (Vo (((hM.alloc _).alloc _).alloc _) _ _).mono ?_;rintro e w1 ⟨rfl,M1,d1⟩)|go_in)
  go_ret;have hacc:=Hacc.out;exact ⟨by simp,by simpa using M1,Ze.then ((by repeat (first|with_reducible exact Zr_ _ _|with_reducible assumption|with_reducible refine Ze.alloc ?_ _)):Ze [a,b] w _) d1 (by simp)⟩
end
section
attribute [local go_sem] Zi
def FL (w:W) (v:Value) (xs:List Nat):Prop:=
 ∃ a cap,v=L a xs.length cap/\(xs=[]\/∃ g cs,a=I ⟨g,0,O⟩/\w.heap[g]? =I (.cells cs 51 (0,0))/\∀ i,i < xs.length->cs[i]? =I (Z V (xs.getD i 0)))
def Vp (s:Zh) (p4:Int) (xs:List Nat):Nat->Zh
 |0=>s
 |k+1=>(((Vp s p4 xs k).jy (p4+3 * k) 0).jy (p4+3 * k+1) (Zq (xs.getD k 0):Int)).jy (p4+3 * k+2) 0
theorem Nl (s:Zh) (p4:Int) (xs:List Nat):∀ k,(Vp s p4 xs k).ws.length=s.ws.length
 |0=>rfl
 |k+1=>by rw [Vp,Nx,Nx,Nx,Nl s p4 xs k]
def Sc (s:Zh) (p4:Int) (xs:List Nat):Int:=if 256 < xs.length then 2 else if xs.length=0 then 0 else if p4 < 0\/4096 < p4\/(s.ws.length:Int) < p4+3 * xs.length then 30 else 0
def Qx (s:Zh) (p4:Int) (xs:List Nat):Zh:=if Sc s p4 xs=0 then Vp s p4 xs xs.length else s
variable {a b:Nat} {s:Zh} {w:W} {xs:List Nat}
theorem Sb (hM:Zj 137 w a b s) (p0 p1 p2 p3 p4 p5:Int) (v:Value) (hv:FL w v xs) (h1:xs.length=0):
  Calls N 41 #[E (I ⟨a,0,O⟩),A_ #[U Y p0,U Y p1,U Y p2,U Y p3,U Y p4,U Y p5],v] w λ e w'=>e=R_ (U Y 0)/\Zj 137 w' a b s/\Ze [a,b] w w':=by
 obtain ⟨fa,cap,rfl,hf⟩:=hv;rw [h1];clear hf h1;go_enter func41,ntmps41;go_wp2;go_ret;exact ⟨J,hM.alloc _,(Zr_ _ _).alloc _⟩
end
section
def Uw (c0 c1 c2 c3 tag:Int) (code:List Xg) (args:List Nat):Zk where
 c0:=c0
 c1:=c1
 c2:=c2
 c3:=c3
 tag:=tag
 code:=code
 bad:=!Xl tag code
 args:=λ i=>if i < args.length then Zq (args.getD i 0) else 0
 locals:=λ _=>0
 qd:=[]
 calls:=[]
 place:=0
 used:=0
 waits:=false
 cell:=0
 qq:=0
 qn:=0
 zd:=0
 out:=[]
 reads:=[]
 buf:=⟨[],λ _=>O,c3⟩
structure Zv where
 (c0 c1:Int)
 m:Zk
 tag:Int
 args:List Nat
 (part qc qg number:Int)
 ql:List Nat
 scan:Option Z4
 back:Option X1
 written:Nat
structure Z8 where
 (c0 c1:Int)
 m:Zk
 tag:Int
 args:List Nat
 (part thread:Int)
 qh:Yh
 read:Option Yu
def Z2 (c1:Int):Int:=3+c1
def Zw (c0 c1:Int):Int:=3+c1+3 * c0
def Kx (c0 c1 st:Int):Z4:=⟨0,1,2,3,Z2 c1,Zw c0 c1,c1,st,0,0⟩
def Xu (c0 c1 c st:Int):Yu:=⟨0,1,2,3,Z2 c1,Zw c0 c1,c,st,0,0,0,0,false⟩
def wrOf (c0 c1 c:Int) (x:Nat) (ve:Int) (y:Nat):X1:=⟨0,1,2,3,Z2 c1,Zw c0 c1,c,(Zq x:Int),ve,(Zq y:Int),0⟩
def Mb (c0 c1 th:Int):Yh:=⟨0,1,2,3,Z2 c1,Zw c0 c1,th,0,0,0⟩
def u64 (n:Int):Int:=IntKind.u64.wrap n
def Ul (c0 c1 c2 c3 tag:Int) (code:List Xg) (args:List Nat):Zv:=
 ⟨c0,c1,Uw c0 c1 c2 c3 tag code args,tag,args.map Zq,1,0,0,0,[],O,O,0⟩
def Ug (c0 c1 c2 c3 th tag:Int) (code:List Xg) (args:List Nat):Z8:=
 ⟨c0,c1,Uw c0 c1 c2 c3 tag code args,tag,args.map Zq,1,th,Mb c0 c1 th,O⟩
def Zv.runs (x:Zv) (s:Zh) (v:Nat):Zv×Zh:=
 let m:=(x.m.step v).1
 let a:=(x.m.step v).2
 if a.kind=1 then ({x with m:=m.xl (s.vh (Z2 x.c1) a.cell)},s.qv (Z2 x.c1) a.cell 1)
 else if a.kind=3/\a.first=true then ({x with m:=m,ql:=x.ql++[s.vh (Z2 x.c1) a.cell]},s.qv (Z2 x.c1) a.cell 1)
 else if a.kind=4/\m.qq=1 then ({x with m:=m,scan:=I (Kx x.c0 x.c1 x.qg),part:=5},s)
 else if a.kind=4 then ({x with m:=m,part:=8},s)
 else ({x with m:=m},s)
def Zv.jc (x:Zv) (s:Zh):Zv×Zh:=
 match x.scan with
 |none=>(x,s)
 |some c=>({x with scan:=I (c.next s),part:=if c.qf s=true then (if 0 < x.ql.length then 6 else 7) else 5},c.mem s)
def Zv.wr (x:Zv):X1:=
 match x.back with
 |some r=>r
 |none=>wrOf x.c0 x.c1 (x.m.buf.all.getD x.written (0,0)).1 (x.ql.getD x.written 0) (u64 (x.qg+1)) (x.m.buf.all.getD x.written (0,0)).2
def Zv.wrote (x:Zv) (r:X1) (s:Zh):Zv:=
 if r.qf s=true then {x with back:=O,written:=x.written+1} else {x with back:=I (r.next s)}
def Zv.ended (x:Zv):Zv:=if x.written=x.ql.length then {x with part:=7} else x
def Zv.writes (x:Zv) (s:Zh):Zv×Zh:=((x.wrote x.wr s).ended,x.wr.mem s)
def Zv.step (x:Zv) (s:Zh) (v:Nat):Zv×Zh:=
 if x.part=1 then ({x with qc:=s.xv 0,part:=2},s.add 0 1)
 else if x.part=2 then ({x with part:=if s.look 1 x.qc=true then 3 else 2},s.load 1)
 else if x.part=3 then ({x with qg:=s.xv 2,part:=4},s.load 2)
 else if x.part=4 then x.runs s v
 else if x.part=5 then x.jc s
 else if x.part=6 then x.writes s
 else if x.part=7 then ({x with number:=wrap64 (u64 (x.qg+1)),part:=8},s.store 2 (u64 (x.qg+1)))
 else ({x with part:=9},s.store 1 (u64 (x.qc+1)))
def Z8.zl (x:Z8) (r:Yu) (s:Zh):Z8×Zh:=
 (if r.qf s=true then {x with m:=x.m.xl (r.next s).value,read:=O} else {x with read:=I (r.next s)},r.mem s)
def Z8.run (x:Z8) (s:Zh) (v:Nat):Z8×Zh:=
 match x.read with
 |some r=>x.zl r s
 |none=>
  if (x.m.step v).2.kind=1 then Z8.zl {x with m:=(x.m.step v).1} (Xu x.c0 x.c1 (x.m.step v).2.cell x.qh.st) s
  else ({x with m:=(x.m.step v).1,part:=if (x.m.step v).2.kind=4 then 3 else x.part},s)
def Z8.step (x:Z8) (s:Zh) (v:Nat):Z8×Zh:=
 if x.part=1 then ({x with qh:=x.qh.next s,part:=if x.qh.qf s=true then 2 else 1},x.qh.mem s)
 else if x.part=2 then x.run s v
 else ({x with part:=4},s.leave 3 x.thread)
structure Zu where
 (th no prog tag:Int)
 args:List Nat
 (mark number:Int)
 (reads writes:List (Int×Nat))
 out:List Nat
 (qq qn zd bgn ended:Int)
def Zu.join (d told:Zu):Zu:={told with th:=d.th,no:=d.no,prog:=d.prog,bgn:=d.bgn,ended:=d.ended}
def Zv.told (x:Zv):Zu:=
 ⟨0,0,0,x.tag,x.args,if 1 < x.part then wrap64 x.qc else -1,x.number,x.m.reads,x.m.buf.all,x.m.out,
  if x.part=9 then x.m.qq else 0,if x.part=9 then x.m.qn else 0,if x.part=9 then x.m.zd else 0,0,0⟩
def Z8.told (x:Z8):Zu:=
 ⟨0,0,0,x.tag,x.args,if x.part=1 then -1 else wrap64 x.qh.st,0,x.m.reads,x.m.buf.all,x.m.out,
  if x.part=4 then x.m.qq else 0,if x.part=4 then x.m.qn else 0,if x.part=4 then x.m.zd else 0,0,0⟩
inductive Qt where
 |wr (x:Zv)
 |rd (x:Z8)
def Qt.step:Qt->Zh->Nat->Qt×Zh
 |.wr x,s,v=>(.wr (x.step s v).1,(x.step s v).2)
 |.rd x,s,v=>(.rd (x.step s v).1,(x.step s v).2)
def Qt.qf:Qt->Bool
 |.wr x=>x.part==9
 |.rd x=>x.part==4
def Qt.told:Qt->Zu
 |.wr x=>x.told
 |.rd x=>x.told
def Qt.m:Qt->Zk
 |.wr x=>x.m
 |.rd x=>x.m
structure Vb where
 raw:Zu
 g:Option Qt
def Vb.deed (x:Vb):Zu:=match x.g with|some g=>x.raw.join g.told|none=>x.raw
structure Qy where
 calls:List (Int×List Nat)
 begun:Nat
 cur:Option Nat
def Bj:Qy:=⟨[],0,O⟩
def Qy.fin (x:Qy):Bool:=x.cur.isNone&&x.begun==x.calls.length
structure Zn where
 (c0 c1 c2 c3:Int)
 progs:List (Int×List Xg)
 mem:Zh
 qi:List Qy
 qe:List Vb
 steps:Nat
def Zn.th (s:Zn) (t:Nat):Qy:=s.qi.getD t Bj
def Zn.call (s:Zn) (t:Nat):Int×List Nat:=(s.th t).calls.getD (s.th t).begun (0,[])
def Zn.prog (s:Zn) (n:Int):Int×List Xg:=s.progs.getD n.toNat (0,[])
def Zn.xb (s:Zn) (t:Nat):Qt:=
 if (s.prog (s.call t).1).1=2 then .wr (Ul s.c0 s.c1 s.c2 s.c3 (s.prog (s.call t).1).1 (s.prog (s.call t).1).2 (s.call t).2)
 else .rd (Ug s.c0 s.c1 s.c2 s.c3 t (s.prog (s.call t).1).1 (s.prog (s.call t).1).2 (s.call t).2)
def Xj (t no prog bgn:Int):Zu:=⟨t,no,prog,0,[],0,0,[],[],[],0,0,0,bgn,0⟩
def Zn.begin (s:Zn) (t:Nat):Zn:=
 {s with qi:=s.qi.set t {s.th t with cur:=I s.qe.length,begun:=(s.th t).begun+1},qe:=s.qe++[⟨Xj t (s.th t).begun (s.call t).1 s.steps,I (s.xb t)⟩]}
def Zn.j9 (s:Zn) (t:Nat) (v:Nat):Zn:=
 match (s.th t).cur with
 |none=>s
 |some i=>
  match s.qe[i]? with
  |some ⟨raw,I g⟩=>
   if (g.step s.mem.opened v).1.qf=true then
    {s with mem:=(g.step s.mem.opened v).2,qi:=s.qi.set t {s.th t with cur:=O},qe:=s.qe.set i ⟨{raw.join (g.step s.mem.opened v).1.told with ended:=s.steps},O⟩}
   else {s with mem:=(g.step s.mem.opened v).2,qe:=s.qe.set i ⟨raw,I (g.step s.mem.opened v).1⟩}
  |_=>s
def Zn.ready (s:Zn) (t:Nat):Zn:=
 if (s.th t).cur.isNone=true then {s with steps:=s.steps+1}.begin t else {s with steps:=s.steps+1}
def Zn.step (s:Zn) (t:Nat) (v:Nat):Zn:=if (s.th t).fin=true then s else (s.ready t).j9 t v
inductive Qn:Zn->List Nat->Zn->Prop
 |nil (s:Zn):Qn s [] s
 |cons {s r:Zn} {t:Nat} {l:List Nat} (v:Nat) (h:Qn (s.step t v) l r):Qn s (t :: l) r
def Zn.view (s:Zn):List Zu:=s.qe.map Vb.deed
def Zn.qf (s:Zn):Bool:=s.qi.all (·.fin)
def Zn.qm (s:Zn) (i:Nat):Nat:=
 atB (s.mem.xh (Z2 s.c1+3 * i)) (s.mem.xh (Z2 s.c1+3 * i+1)) (s.mem.xh (Z2 s.c1+3 * i+2)) (s.mem.xh 2)
def Zn.state (s:Zn):List Nat:=(List.range s.c0.toNat).map s.qm
def Vt (c0 c1 c2 c3:Int) (start:List Nat) (progs:List (Int×List Xg)) (calls:List (List (Int×List Nat))):Zn where
 c0:=c0
 c1:=c1
 c2:=c2
 c3:=c3
 progs:=progs
 mem:=Qx (.fresh (Zw c0 c1).toNat) (Z2 c1) start
 qi:=(List.range c1.toNat).map (λ t=>⟨calls.getD t [],0,O⟩)
 qe:=[]
 steps:=0
end
section
attribute [local go_sem] Zi
structure I5 (w:W) (B:List Nat) (w':W) (B':List Nat):Prop where
 md:Ze B w w'
 gr:∀ k∈B',k∈B\/w.heap.size<=k
theorem I5.refl (w:W) (B:List Nat):I5 w B w B:=⟨Zr_ _ _,λ _ h=>.inl h⟩
theorem I5.trans {a b c:W} {A B C:List Nat} (h:I5 a A b B) (k:I5 b B c C):I5 a A c C:=
 ⟨h.md.then k.md h.gr,λ i hi=>(k.gr i hi).elim (h.gr i) (λ hs=>.inr (Nat.le_trans h.md.size hs))⟩
theorem I5.of {a b:W} {S B:List Nat} (m:Ze S a b) (hS:∀ k∈S,k∈B\/a.heap.size<=k):I5 a B b B:=⟨m.mono hS,λ _ h=>.inl h⟩
def Nr:Option Nat->Value
 |none=>E O
 |some k=>E (I ⟨k,0,O⟩)
structure WP where
 k:Nat
 p:MP
 va:Value
 vw:Value
 sc:Option Nat
 bk:Option Nat
 st:Int
 nx:Value
def Js (q:WP) (x:Zv):Array Value:=#[q.nx,U Y 0,U Y 1,U Y 2,U Y 3,U Y (Z2 x.c1),U Y (Zw x.c0 x.c1),E (I ⟨q.p.mb,0,O⟩),U Y x.c1,U Y x.tag,q.va,U Y x.part,U Y q.st,U Y_ x.qc,U Y_ x.qg,U Y x.number,q.vw,Nr q.sc,Nr q.bk,U Y x.written]
def Ao (w:W):Option Nat->Option Z4->Prop
 |none,O=>True
 |some k,I c=>w.heap[k]? =I (.cells c.arr 243 (0,0))
 |_,_=>False
def Ax (w:W):Option Nat->Option X1->Prop
 |none,O=>True
 |some k,I c=>w.heap[k]? =I (.cells c.arr 247 (0,0))
 |_,_=>False
variable {w w' w0 w1 w2:W} {p p':MP} {q q':WP} {x x':Zv} {m:Zk} {a b:Nat} {s s':Zh} {S:List Nat} {n:Value}
def WP.blocks (q:WP):List Nat:=q.k :: (q.p.blocks++(q.va.ownBlock.toList++(q.vw.ownBlock.toList++(q.sc.toList++q.bk.toList))))
structure Zz (w:W) (q:WP) (x:Zv):Prop where
 hd:w.heap[q.k]? =I (.cells (Js q x) 161 (0,0))
 za:Zg w q.p x.m
 args:w.ownsRow 0 51 1 q.va x.args.length (x.args.map (Z V))
 ql:w.ownsRow 0 51 1 q.vw x.ql.length (x.ql.map (Z V))
 scan:Ao w q.sc x.scan
 back:Ax w q.bk x.back
 na:∀ g,q.va.ownBlock=I g->q.vw.ownBlock≠I g/\g∉q.p.blocks
 nw:∀ g,q.vw.ownBlock=I g->g∉q.p.blocks
theorem WP.mem {k:Nat}:k∈q.blocks↔k=q.k\/k∈q.p.blocks\/q.va.ownBlock=I k\/q.vw.ownBlock=I k\/q.sc=I k\/q.bk=I k:=by
 unfold WP.blocks;simp [Option.mem_toList]
theorem Zg.ku (h:Zg w p m) {k:Nat} (hk:k∈p.blocks):Xt w k∈[I 185,I 202,I 204,I 200,O,I 106,I 51,I 3,I 53]:=by
 rw [Y3] at hk;rcases hk with rfl|rfl|rfl|rfl|rfl|hk|hk|hk|hk|hk|hk
 ·rw [h.zk];decide
 ·rw [h.jh];decide
 ·rw [h.ji];decide
 ·rw [h.jx];decide
 ·rw [h.jw];decide
 ·rw [h.vx hk];decide
 ·rw [h.ju hk];decide
 ·rw [h.jv hk];decide
 ·rw [h.jg hk];decide
 ·rw [h.ja hk];decide
 ·rw [h.j5 hk];decide
theorem Ao.ty {o:Option Nat} {c:Option Z4} (h:Ao w o c) {k:Nat} (hk:o=I k):Xt w k=I 243:=by
 subst hk;cases c with
 |none=>exact h.elim
 |some c=>exact Zp h
theorem Ax.ty {o:Option Nat} {c:Option X1} (h:Ax w o c) {k:Nat} (hk:o=I k):Xt w k=I 247:=by
 subst hk;cases c with
 |none=>exact h.elim
 |some c=>exact Zp h
theorem Ao.mod {o:Option Nat} {c:Option Z4} (h:Ao w o c) (m:Ze S w w') (hS:∀ k,o=I k->k∉S):Ao w' o c:=by
 match o,c,h with
 |none,O,_=>trivial
 |some k,I c,h=>exact m.at h (hS k J)
theorem Ax.mod {o:Option Nat} {c:Option X1} (h:Ax w o c) (m:Ze S w w') (hS:∀ k,o=I k->k∉S):Ax w' o c:=by
 match o,c,h with
 |none,O,_=>trivial
 |some k,I c,h=>exact m.at h (hS k J)
def wTys:List (Option TypeId):=[I 161,I 185,I 202,I 204,I 200,O,I 106,I 51,I 3,I 53,I 243,I 247]
theorem Zz.ku (h:Zz w q x) {k:Nat} (hk:k∈q.blocks):Xt w k∈wTys:=by
 rw [WP.mem] at hk;rcases hk with rfl|hk|hk|hk|hk|hk
 ·rw [Zp h.hd];decide
 ·have:=h.za.ku hk;simp only [wTys,List.mem_cons,or_false,List.not_mem_nil] at this ⊢
  rcases this with e|e|e|e|e|e|e|e|e <;> simp [e]
 ·rw [Yf h.args hk];decide
 ·rw [Yf h.ql hk];decide
 ·rw [h.scan.ty hk];decide
 ·rw [h.back.ty hk];decide
theorem Nw {k:Nat} {t:TypeId} (h:Xt w k=I t):k < w.heap.size:=by
 unfold Xt at h;split at h
 ·rename_i e;exact B9 e
 ·cases h
theorem Zz.lt (h:Zz w q x) {k:Nat} (hk:k∈q.blocks):k < w.heap.size:=by
 rw [WP.mem] at hk;rcases hk with rfl|hk|hk|hk|hk|hk
 ·exact B9 h.hd
 ·exact h.za.lt hk
 ·exact Yr h.args hk
 ·exact Yr h.ql hk
 ·exact Nw (h.scan.ty hk)
 ·exact Nw (h.back.ty hk)
theorem Zz.mod (h:Zz w q x) (m:Ze S w w') (hS:∀ k∈q.blocks,k∉S):Zz w' q x:=by
 have f:∀ k,(k=q.k\/k∈q.p.blocks\/q.va.ownBlock=I k\/q.vw.ownBlock=I k\/q.sc=I k\/q.bk=I k)->k∉S:=λ k hk=>hS k (WP.mem.2 hk);exact ⟨m.at h.hd (f _ (.inl J)),h.za.mod m (λ k hk=>f k (by simp [hk])),Zt h.args m (λ g hg=>f g (by simp [hg])),Zt h.ql m (λ g hg=>f g (by simp [hg])),
  h.scan.mod m (λ g hg=>f g (by simp [hg])),h.back.mod m (λ g hg=>f g (by simp [hg])),h.na,h.nw⟩
theorem Zj.ta (h:Zj 137 w a b s):Xt w a=I 137:=Zp h.hd
theorem Zj.tb (h:Zj 137 w a b s):Xt w b=I 54:=Zp h.ws
theorem Zz.zn (h:Zz w q x) (hM:Zj 137 w a b s):a∉q.blocks:=λ hk=>by
 have:=h.ku hk;rw [hM.ta] at this;exact absurd this (by decide)
theorem Zz.zm (h:Zz w q x) (hM:Zj 137 w a b s):b∉q.blocks:=λ hk=>by
 have:=h.ku hk;rw [hM.tb] at this;exact absurd this (by decide)
theorem Zz.ux (h:Zz w q x) {g:Nat} {t:Option TypeId} (hg:Xt w g=t) (ht:t≠I 161):g≠q.k:=λ e=>ht (by rw [<-hg,e];exact Zp h.hd)
theorem Zz.rest (h:Zz w q x) {g:Nat} (hg:g∈q.p.blocks\/q.va.ownBlock=I g\/q.vw.ownBlock=I g\/q.sc=I g\/q.bk=I g):g≠q.k:=by
 rintro rfl;have tk:=Zp h.hd;rcases hg with hg|hg|hg|hg|hg
 ·have:=h.za.ku hg;rw [tk] at this;exact absurd this (by decide)
 ·exact absurd (tk.symm.trans (Yf h.args hg)) (by decide)
 ·exact absurd (tk.symm.trans (Yf h.ql hg)) (by decide)
 ·exact absurd (tk.symm.trans (h.scan.ty hg)) (by decide)
 ·exact absurd (tk.symm.trans (h.back.ty hg)) (by decide)
theorem Zz.j6 (h:Zz w q x) (m:Ze [q.k] w w') (hd:w'.heap[q.k]? =I (.cells (Js q' x') 161 (0,0)))
  (e1:q'.k=q.k) (e2:q'.p=q.p) (e3:q'.va=q.va) (e4:q'.vw=q.vw) (e5:q'.sc=q.sc) (e6:q'.bk=q.bk)
  (f1:x'.m=x.m) (f2:x'.args=x.args) (f3:x'.ql=x.ql) (f4:x'.scan=x.scan) (f5:x'.back=x.back):Zz w' q' x':=by
 have ne:∀ g,(g∈q.p.blocks\/q.va.ownBlock=I g\/q.vw.ownBlock=I g\/q.sc=I g\/q.bk=I g)->g∉[q.k]:=λ g hg=>by simpa using h.rest hg
 refine ⟨by rw [e1];exact hd,?_,?_,?_,?_,?_,?_,?_⟩
 ·rw [e2,f1];exact h.za.mod m (λ k hk=>ne k (.inl hk))
 ·rw [e3,f2];exact Zt h.args m (λ g hg=>ne g (.inr (.inl hg)))
 ·rw [e4,f3];exact Zt h.ql m (λ g hg=>ne g (.inr (.inr (.inl hg))))
 ·rw [e5,f4];exact h.scan.mod m (λ g hg=>ne g (.inr (.inr (.inr (.inl hg)))))
 ·rw [e6,f5];exact h.back.mod m (λ g hg=>ne g (.inr (.inr (.inr (.inr hg)))))
 ·rw [e2,e3,e4];exact h.na
 ·rw [e2,e4];exact h.nw
theorem Zz.cell (h:Zz w q x) (i:Nat) {u:Value} (hu:(Js q x)[i]? =I u):w.cell? ⟨q.k,i,O⟩=I u/\w.frozen? ⟨q.k,i,O⟩=false:=
 ⟨Za h.hd hu,Zb h.hd⟩
theorem Zz.yy (h:Zz w q x) (d:Zl w q.p m w'):∃ p',Zz w' {q with p:=p'} {x with m:=m}/\Dt w q.p w' p':=by
 obtain ⟨p',hm,F⟩:=d;have nk:q.k∉q.p.blocks:=λ hk=>h.rest (.inl hk) J;have jl:∀ g,g < w.heap.size->g∉q.p.blocks->g∉p'.blocks:=λ g hl hg hk=>(F.gr g hk).elim hg (λ hs=>by omega);refine ⟨p',⟨?_,hm,?_,?_,?_,?_,?_,?_⟩,F⟩
 ·have:=F.md.at h.hd nk;rw [this];unfold Js;rw [F.mb]
 ·exact Zt h.args F.md (λ g hg=>(h.na g hg).2)
 ·exact Zt h.ql F.md (λ g hg=>h.nw g hg)
 ·exact h.scan.mod F.md (λ g hg hk=>by have:=h.za.ku hk;rw [h.scan.ty hg] at this;exact absurd this (by decide))
 ·exact h.back.mod F.md (λ g hg hk=>by have:=h.za.ku hk;rw [h.back.ty hg] at this;exact absurd this (by decide))
 ·exact λ g hg=>⟨(h.na g hg).1,jl g (Yr h.args hg) (h.na g hg).2⟩
 ·exact λ g hg=>jl g (Yr h.ql hg) (h.nw g hg)
def Xd (w:W) (q:WP) (a b:Nat) (x:Zv) (n:Value) (s:Zh) (w':W):Prop:=
 ∃ q',Zz w' q' x/\Zj 137 w' a b s/\I5 w (a :: b :: q.blocks) w' (a :: b :: q'.blocks)/\q'.k=q.k/\q'.p.mb=q.p.mb/\q'.nx=n
theorem Xd.same (h:Zz w q x) (hM:Zj 137 w a b s):Xd w q a b x q.nx s w:=⟨q,h,hM,I5.refl _ _,J,J,J⟩
theorem Xd.xd (h:Xd w q a b x n s w1) (hM:Zj 137 w' a b s') (m:Ze [a,b] w1 w'):Xd w q a b x n s' w':=by
 obtain ⟨r,h1,h2,h3,h4⟩:=h;have na:=h1.zn h2;have nb:=h1.zm h2;exact ⟨r,h1.mod m (λ k hk hm=>by simp at hm;rcases hm with rfl|rfl;exact na hk;exact nb hk),hM,h3.trans (.of m (λ k hk=>.inl (by simp at hk ⊢;rcases hk with rfl|rfl <;> simp))),h4⟩
theorem Xd.xi (h:Xd w q a b x n s w1) (m:Ze [] w1 w'):Xd w q a b x n s w':=by
 obtain ⟨r,h1,h2,h3,h4⟩:=h;exact Xd.xd ⟨r,h1,h2,h3,h4⟩ (h2.mod m (by simp) (by simp)) (m.qj _)
theorem Xd.alloc (h:Xd w q a b x n s w1) (o:Obj):Xd w q a b x n s (w1.alloc o):=h.xi ((Zr_ _ _).alloc _)
theorem Xd.drew (h:Xd w q a b x n s w1):Xd w q a b x n s w1.drew:=h.xi ((Zr_ _ _).drew)
theorem Xd.drewN (h:Xd w q a b x n s w1) (k:Nat):Xd w q a b x n s (w1.drewN k):=h.xi ((Zr_ _ _).drewN k)
theorem Xd.lt (h:Xd w q a b x n s w1):q.k < w1.heap.size:=by
 obtain ⟨r,h1,_,_,h4,_⟩:=h;rw [<-h4];exact B9 h1.hd
theorem Xd.size (h:Xd w q a b x n s w1):w.heap.size<=w1.heap.size:=by
 obtain ⟨r,_,_,h3,_⟩:=h;exact h3.md.size
theorem Xd.cell (h:Xd w q a b x n s w1) (i:Nat) {u:Value} (hu:∀ r:WP,r.p.mb=q.p.mb->r.nx=n->(Js r x)[i]? =I u):w1.cell? ⟨q.k,i,O⟩=I u/\w1.frozen? ⟨q.k,i,O⟩=false:=by
 obtain ⟨r,h1,_,_,h4,h5,h6⟩:=h;rw [<-h4];exact h1.cell i (hu r h5 h6)
theorem Xd.jk (h:Xd w q a b x n s w1) (i:Nat) (u:Value) (x':Zv) (hc:∀ r:WP,(Js r x).setIfInBounds i u=Js r x')
  (f1:x'.m=x.m) (f2:x'.args=x.args) (f3:x'.ql=x.ql) (f4:x'.scan=x.scan) (f5:x'.back=x.back):Xd w q a b x' n s (w1.setCell ⟨q.k,i,O⟩ u):=by
 obtain ⟨r,h1,h2,h3,h4,h5,h6⟩:=h;have na:=h1.zn h2;have nb:=h1.zm h2;have kin:r.k∈r.blocks:=WP.mem.2 (.inl J);have m:Ze [r.k] w1 (w1.setCell ⟨q.k,i,O⟩ u):=(Zr_ _ _).setCell _ _ (.inl (by simp [h4]));refine ⟨r,h1.j6 m ?_ J J J J J J f1 f2 f3 f4 f5,h2.mod m (by simp;rintro rfl;exact na kin) (by simp;rintro rfl;exact nb kin),h3.trans (.of m (λ k hk=>.inl (by simp at hk;simp [hk,kin]))),h4,h5,h6⟩;rw [<-hc r,h4];exact Zd _ (by rw [<-h4];exact h1.hd)
theorem Xd.ky (h:Xd w q a b x n s w1) (u:Value):Xd w q a b x u s (w1.setCell ⟨q.k,0,O⟩ u):=by
 obtain ⟨r,h1,h2,h3,h4,h5,h6⟩:=h;have na:=h1.zn h2;have nb:=h1.zm h2;have kin:r.k∈r.blocks:=WP.mem.2 (.inl J);have m:Ze [r.k] w1 (w1.setCell ⟨q.k,0,O⟩ u):=(Zr_ _ _).setCell _ _ (.inl (by simp [h4]));refine ⟨{r with nx:=u},h1.j6 m ?_ J J J J J J J J J J J,h2.mod m (by simp;rintro rfl;exact na kin) (by simp;rintro rfl;exact nb kin),h3.trans (.of m (λ k hk=>.inl (by simp at hk;simp [hk,kin]))),h4,h5,J⟩;rw [h4];have hk:=h1.hd;rw [h4] at hk;exact Zd _ hk
theorem Xd.kg (h:Xd w q a b x n s w1) (u:Int):Xd w q a b x n s (w1.setCell ⟨q.k,12,O⟩ (U Y u)):=by
 obtain ⟨r,h1,h2,h3,h4,h5,h6⟩:=h;have na:=h1.zn h2;have nb:=h1.zm h2;have kin:r.k∈r.blocks:=WP.mem.2 (.inl J);have m:Ze [r.k] w1 (w1.setCell ⟨q.k,12,O⟩ (U Y u)):=(Zr_ _ _).setCell _ _ (.inl (by simp [h4]));refine ⟨{r with st:=u},h1.j6 m ?_ J J J J J J J J J J J,h2.mod m (by simp;rintro rfl;exact na kin) (by simp;rintro rfl;exact nb kin),h3.trans (.of m (λ k hk=>.inl (by simp at hk;simp [hk,kin]))),h4,h5,h6⟩;rw [h4];have hk:=h1.hd;rw [h4] at hk;exact Zd _ hk
theorem Xd.za (h:Xd w q a b x n s w1):∃ p,Zg w1 p x.m/\p.mb=q.p.mb/\∀ w' m,Zl w1 p m w'->Xd w q a b {x with m:=m} n s w':=by
 obtain ⟨r,h1,h2,h3,h4,h5,h6⟩:=h;refine ⟨r.p,h1.za,h5,λ w' m d=>?_⟩;obtain ⟨p',k1,F⟩:=h1.yy d;have na:=h1.zn h2;have nb:=h1.zm h2;have sub:∀ k∈r.p.blocks,k∈r.blocks:=λ k hk=>WP.mem.2 (.inr (.inl hk));refine ⟨_,k1,h2.mod F.md (λ hk=>na (sub _ hk)) (λ hk=>nb (sub _ hk)),h3.trans ⟨F.md.mono (λ k hk=>.inl (by simp [sub k hk])),λ k hk=>?_⟩,h4,F.mb.trans h5,h6⟩;simp only [List.mem_cons,WP.mem] at hk ⊢
 rcases hk with hk|hk|hk|hk|hk
 ·exact .inl (.inl hk)
 ·exact .inl (.inr (.inl hk))
 ·exact .inl (.inr (.inr (.inl hk)))
 ·exact (F.gr k hk).imp (λ h=>.inr (.inr (.inr (.inl h)))) id
 ·exact .inl (.inr (.inr (.inr (.inr hk))))
end
section
attribute [local go_sem] Zi
theorem Qg (P:Program) (w:W) (a:Addr) (m:Mode) (f:Fn) (xs ys:Array Value):(store a (.func f xs ys) m).run P w=stored P w a (.func f xs ys) m:=run_store P w a _ m J
theorem Xo (P:Program) (w:W) (a:Addr) (m:Mode):(store a .nilFunc m).run P w=stored P w a .nilFunc m:=run_store P w a _ m J
attribute [local go_sem] Qg Xo
variable {w w' w0 w1 w2:W} {p p':MP} {q q':WP} {x x':Zv} {m:Zk} {a b:Nat} {s s':Zh} {S:List Nat} {n:Value}
theorem Xd.xe (h:Xd w q a b x n s w1):Zj 137 w1 a b s:=by
 obtain ⟨_,_,hM,_⟩:=h;exact hM
def Xi (k:Int):Value:=if k=1 then .func (.func 88) #[] #[] else if k=2 then .func (.func 89) #[] #[] else if k=3 then .func (.func 90) #[] #[] else if k=4 then .func (.func 91) #[] #[]
 else if k=5 then .func (.func 92) #[] #[] else if k=6 then .func (.func 93) #[] #[] else if k=7 then .func (.func 94) #[] #[] else .func (.func 95) #[] #[]
theorem ix187_1 (w:W):(Instr.index 187 (A_ #[Value.nilFunc,Value.func (.func 88) #[] #[],Value.func (.func 89) #[] #[],Value.func (.func 90) #[] #[],Value.func (.func 91) #[] #[],Value.func (.func 92) #[] #[],Value.func (.func 93) #[] #[],Value.func (.func 94) #[] #[],Value.func (.func 95) #[] #[],Value.nilFunc]) (U Y 1)).run N w=.ok (Value.func (.func 88) #[] #[]) w:=by kernel_rfl
theorem ix187_2 (w:W):(Instr.index 187 (A_ #[Value.nilFunc,Value.func (.func 88) #[] #[],Value.func (.func 89) #[] #[],Value.func (.func 90) #[] #[],Value.func (.func 91) #[] #[],Value.func (.func 92) #[] #[],Value.func (.func 93) #[] #[],Value.func (.func 94) #[] #[],Value.func (.func 95) #[] #[],Value.nilFunc]) (U Y 2)).run N w=.ok (Value.func (.func 89) #[] #[]) w:=by kernel_rfl
theorem ix187_3 (w:W):(Instr.index 187 (A_ #[Value.nilFunc,Value.func (.func 88) #[] #[],Value.func (.func 89) #[] #[],Value.func (.func 90) #[] #[],Value.func (.func 91) #[] #[],Value.func (.func 92) #[] #[],Value.func (.func 93) #[] #[],Value.func (.func 94) #[] #[],Value.func (.func 95) #[] #[],Value.nilFunc]) (U Y 3)).run N w=.ok (Value.func (.func 90) #[] #[]) w:=by kernel_rfl
theorem ix187_4 (w:W):(Instr.index 187 (A_ #[Value.nilFunc,Value.func (.func 88) #[] #[],Value.func (.func 89) #[] #[],Value.func (.func 90) #[] #[],Value.func (.func 91) #[] #[],Value.func (.func 92) #[] #[],Value.func (.func 93) #[] #[],Value.func (.func 94) #[] #[],Value.func (.func 95) #[] #[],Value.nilFunc]) (U Y 4)).run N w=.ok (Value.func (.func 91) #[] #[]) w:=by kernel_rfl
theorem ix187_5 (w:W):(Instr.index 187 (A_ #[Value.nilFunc,Value.func (.func 88) #[] #[],Value.func (.func 89) #[] #[],Value.func (.func 90) #[] #[],Value.func (.func 91) #[] #[],Value.func (.func 92) #[] #[],Value.func (.func 93) #[] #[],Value.func (.func 94) #[] #[],Value.func (.func 95) #[] #[],Value.nilFunc]) (U Y 5)).run N w=.ok (Value.func (.func 92) #[] #[]) w:=by kernel_rfl
theorem ix187_6 (w:W):(Instr.index 187 (A_ #[Value.nilFunc,Value.func (.func 88) #[] #[],Value.func (.func 89) #[] #[],Value.func (.func 90) #[] #[],Value.func (.func 91) #[] #[],Value.func (.func 92) #[] #[],Value.func (.func 93) #[] #[],Value.func (.func 94) #[] #[],Value.func (.func 95) #[] #[],Value.nilFunc]) (U Y 6)).run N w=.ok (Value.func (.func 93) #[] #[]) w:=by kernel_rfl
theorem ix187_7 (w:W):(Instr.index 187 (A_ #[Value.nilFunc,Value.func (.func 88) #[] #[],Value.func (.func 89) #[] #[],Value.func (.func 90) #[] #[],Value.func (.func 91) #[] #[],Value.func (.func 92) #[] #[],Value.func (.func 93) #[] #[],Value.func (.func 94) #[] #[],Value.func (.func 95) #[] #[],Value.nilFunc]) (U Y 7)).run N w=.ok (Value.func (.func 94) #[] #[]) w:=by kernel_rfl
theorem ix187_8 (w:W):(Instr.index 187 (A_ #[Value.nilFunc,Value.func (.func 88) #[] #[],Value.func (.func 89) #[] #[],Value.func (.func 90) #[] #[],Value.func (.func 91) #[] #[],Value.func (.func 92) #[] #[],Value.func (.func 93) #[] #[],Value.func (.func 94) #[] #[],Value.func (.func 95) #[] #[],Value.nilFunc]) (U Y 8)).run N w=.ok (Value.func (.func 95) #[] #[]) w:=by kernel_rfl
theorem ix187_9 (w:W):(Instr.index 187 (A_ #[Value.nilFunc,Value.func (.func 88) #[] #[],Value.func (.func 89) #[] #[],Value.func (.func 90) #[] #[],Value.func (.func 91) #[] #[],Value.func (.func 92) #[] #[],Value.func (.func 93) #[] #[],Value.func (.func 94) #[] #[],Value.func (.func 95) #[] #[],Value.nilFunc]) (U Y 9)).run N w=.ok (Value.nilFunc) w:=by kernel_rfl
def Oi (w:W) (q:WP) (a b:Nat) (x:Zv) (s:Zh) (w':W):Prop:=∃ n,Xd w q a b x n s w'/\(x.part<=8->n=Xi x.part)
def Cj (w:W) (q:WP) (a b:Nat) (x:Zv) (s:Zh) (e:Ending) (w':W):Prop:=e=R_ (.tuple #[])/\Oi w q a b x s w'
theorem Uq (h:Xd w q a b x n s w1) (k:Int) (h1:1<=k) (h9:k<=9):
  Calls N 75 #[E (I ⟨q.k,0,O⟩),U Y k] w1 (Cj w q a b {x with part:=k} s):=by
 have c11:=(h.cell 11 (u:=U Y x.part) (λ _ _ _=>J)).1;have fc11:=(h.cell 11 (u:=U Y x.part) (λ _ _ _=>J)).2;have c0:=(h.cell 0 (u:=n) (λ r _ hn=>by rw [<-hn];rfl)).1;have f0:=(h.cell 0 (u:=n) (λ r _ hn=>by rw [<-hn];rfl)).2;have hlt:=h.lt;have hh:k=1\/k=2\/k=3\/k=4\/k=5\/k=6\/k=7\/k=8\/k=9:=by omega
 have H:=Zh_ h;clear h;rcases hh with rfl|rfl|rfl|rfl|rfl|rfl|rfl|rfl|rfl
 ·have hi:=λ w=>ix187_1 w;clear h1 h9;go_enter func75,ntmps75;go_wp2;go_end0;exact ⟨J,_,(Xd.jk (x':={x with part:=1}) H.out 11 _ (λ _=>J) J J J J J).ky _,λ hp=>by first|rfl|(simp at hp)⟩
 ·have hi:=λ w=>ix187_2 w;clear h1 h9;go_enter func75,ntmps75;go_wp2;go_end0;exact ⟨J,_,(Xd.jk (x':={x with part:=2}) H.out 11 _ (λ _=>J) J J J J J).ky _,λ hp=>by first|rfl|(simp at hp)⟩
 ·have hi:=λ w=>ix187_3 w;clear h1 h9;go_enter func75,ntmps75;go_wp2;go_end0;exact ⟨J,_,(Xd.jk (x':={x with part:=3}) H.out 11 _ (λ _=>J) J J J J J).ky _,λ hp=>by first|rfl|(simp at hp)⟩
 ·have hi:=λ w=>ix187_4 w;clear h1 h9;go_enter func75,ntmps75;go_wp2;go_end0;exact ⟨J,_,(Xd.jk (x':={x with part:=4}) H.out 11 _ (λ _=>J) J J J J J).ky _,λ hp=>by first|rfl|(simp at hp)⟩
 ·have hi:=λ w=>ix187_5 w;clear h1 h9;go_enter func75,ntmps75;go_wp2;go_end0;exact ⟨J,_,(Xd.jk (x':={x with part:=5}) H.out 11 _ (λ _=>J) J J J J J).ky _,λ hp=>by first|rfl|(simp at hp)⟩
 ·have hi:=λ w=>ix187_6 w;clear h1 h9;go_enter func75,ntmps75;go_wp2;go_end0;exact ⟨J,_,(Xd.jk (x':={x with part:=6}) H.out 11 _ (λ _=>J) J J J J J).ky _,λ hp=>by first|rfl|(simp at hp)⟩
 ·have hi:=λ w=>ix187_7 w;clear h1 h9;go_enter func75,ntmps75;go_wp2;go_end0;exact ⟨J,_,(Xd.jk (x':={x with part:=7}) H.out 11 _ (λ _=>J) J J J J J).ky _,λ hp=>by first|rfl|(simp at hp)⟩
 ·have hi:=λ w=>ix187_8 w;clear h1 h9;go_enter func75,ntmps75;go_wp2;go_end0;exact ⟨J,_,(Xd.jk (x':={x with part:=8}) H.out 11 _ (λ _=>J) J J J J J).ky _,λ hp=>by first|rfl|(simp at hp)⟩
 ·have hi:=λ w=>ix187_9 w;clear h1 h9;go_enter func75,ntmps75;go_wp2;go_end0;exact ⟨J,_,(Xd.jk (x':={x with part:=9}) H.out 11 _ (λ _=>J) J J J J J).ky _,λ hp=>by first|rfl|(simp at hp)⟩
theorem draws_c (h:Xd w q a b x n s w1):Calls N 88 #[E (I ⟨q.k,0,O⟩),E (I ⟨a,0,O⟩)] w1 (Cj w q a b {x with qc:=s.xv 0,part:=2} (s.add 0 1)):=by
 have c1:=(h.cell 1 (u:=U Y 0) (λ _ _ _=>J)).1;have c2:=(h.cell 2 (u:=U Y 1) (λ _ _ _=>J)).1;have c3:=(h.cell 3 (u:=U Y 2) (λ _ _ _=>J)).1;have c4:=(h.cell 4 (u:=U Y 3) (λ _ _ _=>J)).1;have c5:=(h.cell 5 (u:=U Y (Z2 x.c1)) (λ _ _ _=>J)).1;have c6:=(h.cell 6 (u:=U Y (Zw x.c0 x.c1)) (λ _ _ _=>J)).1;have hM:=h.xe;have hlt:=h.lt;have H:=Zh_ h;clear h;go_enter func88,ntmps88;go_wp2_with fail;refine (draw_c hM 0 1 2 3 _ _).mono ?_;rintro e w2 ⟨rfl,M2,m2⟩;clear c1 c2 c3 c4 c5 c6 hM hlt;have G2:=H.out.xd M2 m2;have c13:=(G2.cell 13 (u:=U Y_ x.qc) (λ _ _ _=>J)).1;have fc13:=(G2.cell 13 (u:=U Y_ x.qc) (λ _ _ _=>J)).2;have hlt:=G2.lt;have H2:=Zh_ G2;clear G2 M2 m2;go_wp2_with fail;refine (Uq (Xd.jk (x':={x with qc:=s.xv 0}) H2.out 13 _ (λ _=>J) J J J J J) 2 (by decide) (by decide)).mono ?_;rintro e w3 ⟨rfl,G3⟩;go_wp2;go_end0;exact ⟨J,G3⟩
theorem marks_c (h:Xd w q a b x n s w1):Calls N 90 #[E (I ⟨q.k,0,O⟩),E (I ⟨a,0,O⟩)] w1 (Cj w q a b {x with qg:=s.xv 2,part:=4} (s.load 2)):=by
 have c1:=(h.cell 1 (u:=U Y 0) (λ _ _ _=>J)).1;have c2:=(h.cell 2 (u:=U Y 1) (λ _ _ _=>J)).1;have c3:=(h.cell 3 (u:=U Y 2) (λ _ _ _=>J)).1;have c4:=(h.cell 4 (u:=U Y 3) (λ _ _ _=>J)).1;have c5:=(h.cell 5 (u:=U Y (Z2 x.c1)) (λ _ _ _=>J)).1;have c6:=(h.cell 6 (u:=U Y (Zw x.c0 x.c1)) (λ _ _ _=>J)).1;have hM:=h.xe;have hlt:=h.lt;have H:=Zh_ h;clear h;go_enter func90,ntmps90;go_wp2_with fail;refine (stamp_c hM 0 1 2 3 _ _).mono ?_;rintro e w2 ⟨rfl,M2,m2⟩;clear c1 c2 c3 c4 c5 c6 hM hlt;have G2:=H.out.xd M2 m2;have c14:=(G2.cell 14 (u:=U Y_ x.qg) (λ _ _ _=>J)).1;have fc14:=(G2.cell 14 (u:=U Y_ x.qg) (λ _ _ _=>J)).2;have hlt:=G2.lt;have H2:=Zh_ G2;clear G2 M2 m2;go_wp2_with fail;refine (Uq (Xd.jk (x':={x with qg:=s.xv 2}) H2.out 14 _ (λ _=>J) J J J J J) 4 (by decide) (by decide)).mono ?_;rintro e w3 ⟨rfl,G3⟩;go_wp2;go_end0;exact ⟨J,G3⟩
end
section
attribute [local go_sem] Zi
variable {w w' w0 w1 w2:W} {p p':MP} {q q':WP} {x x':Zv} {m:Zk} {a b:Nat} {s s':Zh} {S:List Nat} {n:Value} {c c':Z4} {r r':X1}
theorem Zz.scanC (h:Zz w q x) {k:Nat} (hk:q.sc=I k) (hM:Zj 137 w a b s) (hc:w'.heap[k]? =I (.cells c'.arr 243 (0,0))) (m:Ze [a,b,k] w w'):Zz w' q {x with scan:=I c'}:=by
 have tk:=h.scan.ty hk;have na:=h.zn hM;have nb:=h.zm hM;have ne:∀ g,g∈q.blocks->Xt w g≠I 243->g∉[a,b,k]:=by
  intro g hg ht hm;simp at hm;rcases hm with rfl|rfl|rfl
  ·exact na hg
  ·exact nb hg
  ·exact ht tk
 have f:∀ g,(g=q.k\/g∈q.p.blocks\/q.va.ownBlock=I g\/q.vw.ownBlock=I g\/q.sc=I g\/q.bk=I g)->Xt w g≠I 243->g∉[a,b,k]:=λ g hg=>ne g (WP.mem.2 hg);refine ⟨m.at h.hd (f _ (.inl J) (by rw [Zp h.hd];decide)),h.za.mod m (λ g hg=>f g (by simp [hg]) (λ e=>by have:=h.za.ku hg;rw [e] at this;exact absurd this (by decide))),
  Zt h.args m (λ g hg=>f g (by simp [hg]) (by rw [Yf h.args hg];decide)),Zt h.ql m (λ g hg=>f g (by simp [hg]) (by rw [Yf h.ql hg];decide)),?_,
  h.back.mod m (λ g hg=>f g (by simp [hg]) (by rw [h.back.ty hg];decide)),h.na,h.nw⟩
 rw [hk];exact hc
theorem Zz.backC (h:Zz w q x) {k:Nat} (hk:q.bk=I k) (hM:Zj 137 w a b s) (hc:w'.heap[k]? =I (.cells r'.arr 247 (0,0))) (m:Ze [a,b,k] w w'):Zz w' q {x with back:=I r'}:=by
 have tk:=h.back.ty hk;have na:=h.zn hM;have nb:=h.zm hM;have ne:∀ g,g∈q.blocks->Xt w g≠I 247->g∉[a,b,k]:=by
  intro g hg ht hm;simp at hm;rcases hm with rfl|rfl|rfl
  ·exact na hg
  ·exact nb hg
  ·exact ht tk
 have f:∀ g,(g=q.k\/g∈q.p.blocks\/q.va.ownBlock=I g\/q.vw.ownBlock=I g\/q.sc=I g\/q.bk=I g)->Xt w g≠I 247->g∉[a,b,k]:=λ g hg=>ne g (WP.mem.2 hg);refine ⟨m.at h.hd (f _ (.inl J) (by rw [Zp h.hd];decide)),h.za.mod m (λ g hg=>f g (by simp [hg]) (λ e=>by have:=h.za.ku hg;rw [e] at this;exact absurd this (by decide))),
  Zt h.args m (λ g hg=>f g (by simp [hg]) (by rw [Yf h.args hg];decide)),Zt h.ql m (λ g hg=>f g (by simp [hg]) (by rw [Yf h.ql hg];decide)),
  h.scan.mod m (λ g hg=>f g (by simp [hg]) (by rw [h.scan.ty hg];decide)),?_,h.na,h.nw⟩
 rw [hk];exact hc
theorem Xd.scan (h:Xd w q a b x n s w1) (hc:x.scan=I c):∃ k,w1.heap[k]? =I (.cells c.arr 243 (0,0))/\w1.cell? ⟨q.k,17,O⟩=I (E (I ⟨k,0,O⟩))/\
  ∀ w' c' s',Zj 137 w' a b s'->w'.heap[k]? =I (.cells c'.arr 243 (0,0))->Ze [a,b,k] w1 w'->Xd w q a b {x with scan:=I c'} n s' w':=by
 obtain ⟨r,h1,h2,h3,h4,h5,h6⟩:=h;have hs:=h1.scan;rw [hc] at hs;have:∃ k,r.sc=I k:=by
  cases e:r.sc with
  |none=>rw [e] at hs;exact hs.elim
  |some k=>exact ⟨k,J⟩
 obtain ⟨k,hk⟩:=this;rw [hk] at hs;refine ⟨k,hs,?_,λ w' c' s' M' hc' m=>⟨r,h1.scanC hk h2 hc' m,M',h3.trans (.of m (λ g hg=>.inl ?_)),h4,h5,h6⟩⟩
 ·have:=(h1.cell 17 (u:=Nr r.sc) J).1;rw [hk] at this;rw [<-h4];exact this
 ·simp only [List.mem_cons,List.not_mem_nil,or_false] at hg;simp only [List.mem_cons,WP.mem];rcases hg with rfl|rfl|rfl
  ·exact .inl J
  ·exact .inr (.inl J)
  ·exact .inr (.inr (by simp [hk]))
theorem Xd.back (h:Xd w q a b x n s w1) (hc:x.back=I r):∃ k,w1.heap[k]? =I (.cells r.arr 247 (0,0))/\w1.cell? ⟨q.k,18,O⟩=I (E (I ⟨k,0,O⟩))/\w1.frozen? ⟨q.k,18,O⟩=false/\
  ∀ w' r' s',Zj 137 w' a b s'->w'.heap[k]? =I (.cells r'.arr 247 (0,0))->Ze [a,b,k] w1 w'->Xd w q a b {x with back:=I r'} n s' w':=by
 obtain ⟨r0,h1,h2,h3,h4,h5,h6⟩:=h;have hs:=h1.back;rw [hc] at hs;have:∃ k,r0.bk=I k:=by
  cases e:r0.bk with
  |none=>rw [e] at hs;exact hs.elim
  |some k=>exact ⟨k,J⟩
 obtain ⟨k,hk⟩:=this;rw [hk] at hs;refine ⟨k,hs,?_,?_,λ w' c' s' M' hc' m=>⟨r0,h1.backC hk h2 hc' m,M',h3.trans (.of m (λ g hg=>.inl ?_)),h4,h5,h6⟩⟩
 ·have:=(h1.cell 18 (u:=Nr r0.bk) J).1;rw [hk] at this;rw [<-h4];exact this
 ·rw [<-h4];exact (h1.cell 18 (u:=Nr r0.bk) J).2
 ·simp only [List.mem_cons,List.not_mem_nil,or_false] at hg;simp only [List.mem_cons,WP.mem];rcases hg with rfl|rfl|rfl
  ·exact .inl J
  ·exact .inr (.inl J)
  ·exact .inr (.inr (by simp [hk]))
theorem Xd.yg (h:Xd w q a b x n s w1) (hc:x.back=O):w1.cell? ⟨q.k,18,O⟩=I (E O)/\w1.frozen? ⟨q.k,18,O⟩=false:=by
 obtain ⟨r0,h1,h2,h3,h4,h5,h6⟩:=h;have hs:=h1.back;rw [hc] at hs;have e:r0.bk=O:=by
  cases e:r0.bk with
  |none=>rfl
  |some k=>rw [e] at hs;exact hs.elim
 have:=h1.cell 18 (u:=Nr r0.bk) J;rw [e,h4] at this;exact this
theorem Xd.ob (h:Xd w q a b x n s w1):∃ u,w1.cell? ⟨q.k,17,O⟩=I u/\w1.frozen? ⟨q.k,17,O⟩=false:=by
 obtain ⟨r0,h1,h2,h3,h4,h5,h6⟩:=h;have:=h1.cell 17 (u:=Nr r0.sc) J;rw [h4] at this;exact ⟨_,this⟩
theorem Xd.xu (h:Xd w q a b x n s w1):∃ u,w1.cell? ⟨q.k,12,O⟩=I (U Y u)/\w1.frozen? ⟨q.k,12,O⟩=false:=by
 obtain ⟨r0,h1,h2,h3,h4,h5,h6⟩:=h;have:=h1.cell 12 (u:=U Y r0.st) J;rw [h4] at this;exact ⟨_,this⟩
theorem Zz.ye (h:Zz w q x) (m:Ze [q.k] w w') (hd:w'.heap[q.k]? =I (.cells (Js q' x') 161 (0,0)))
  (e1:q'.k=q.k) (e2:q'.p=q.p) (e3:q'.va=q.va) (e4:q'.vw=q.vw)
  (f1:x'.m=x.m) (f2:x'.args=x.args) (f3:x'.ql=x.ql) (hs:Ao w' q'.sc x'.scan) (hb:Ax w' q'.bk x'.back):Zz w' q' x':=by
 have ne:∀ g,(g∈q.p.blocks\/q.va.ownBlock=I g\/q.vw.ownBlock=I g\/q.sc=I g\/q.bk=I g)->g∉[q.k]:=λ g hg=>by simpa using h.rest hg
 refine ⟨by rw [e1];exact hd,?_,?_,?_,hs,hb,?_,?_⟩
 ·rw [e2,f1];exact h.za.mod m (λ k hk=>ne k (.inl hk))
 ·rw [e3,f2];exact Zt h.args m (λ g hg=>ne g (.inr (.inl hg)))
 ·rw [e4,f3];exact Zt h.ql m (λ g hg=>ne g (.inr (.inr (.inl hg))))
 ·rw [e2,e3,e4];exact h.na
 ·rw [e2,e4];exact h.nw
theorem Xd.yk (h:Xd w q a b x n s w1) {k:Nat} (hc:w1.heap[k]? =I (.cells c.arr 243 (0,0))) (hk:w.heap.size<=k):
  Xd w q a b {x with scan:=I c} n s (w1.setCell ⟨q.k,17,O⟩ (E (I ⟨k,0,O⟩))):=by
 obtain ⟨r,h1,h2,h3,h4,h5,h6⟩:=h;have na:=h1.zn h2;have nb:=h1.zm h2;have kin:r.k∈r.blocks:=WP.mem.2 (.inl J);have m:Ze [r.k] w1 (w1.setCell ⟨q.k,17,O⟩ (E (I ⟨k,0,O⟩))):=(Zr_ _ _).setCell _ _ (.inl (by simp [h4]));have nek:k≠r.k:=h1.ux (Zp hc) (by decide);refine ⟨{r with sc:=I k},h1.ye m ?_ J J J J J J J (m.at hc (by simp [nek])) (h1.back.mod m (λ g hg=>by simpa using h1.rest (by simp [hg]))),h2.mod m (by simp;rintro rfl;exact na kin) (by simp;rintro rfl;exact nb kin),
  ⟨h3.md.then m (λ g hg=>by simp at hg;subst hg;exact h3.gr r.k (by simp [kin])),λ g hg=>?_⟩,h4,h5,h6⟩
 ·have hk:=h1.hd;rw [h4] at hk ⊢
  exact Zd _ hk
 simp only [List.mem_cons,WP.mem] at hg;rcases hg with hg|hg|hg|hg|hg|hg|hg|hg
 ·exact h3.gr g (by simp [hg])
 ·exact h3.gr g (by simp [hg])
 ·exact h3.gr g (by simp [hg,kin])
 ·exact h3.gr g (by simp [WP.mem,hg])
 ·exact h3.gr g (by simp [WP.mem,hg])
 ·exact h3.gr g (by simp [WP.mem,hg])
 ·obtain rfl:=Zo_ hg;exact .inr hk
 ·exact h3.gr g (by simp [WP.mem,hg])
theorem Xd.uq (h:Xd w q a b x n s w1) {k:Nat} (hc:w1.heap[k]? =I (.cells r'.arr 247 (0,0))) (hk:w.heap.size<=k):
  Xd w q a b {x with back:=I r'} n s (w1.setCell ⟨q.k,18,O⟩ (E (I ⟨k,0,O⟩))):=by
 obtain ⟨r,h1,h2,h3,h4,h5,h6⟩:=h;have na:=h1.zn h2;have nb:=h1.zm h2;have kin:r.k∈r.blocks:=WP.mem.2 (.inl J);have m:Ze [r.k] w1 (w1.setCell ⟨q.k,18,O⟩ (E (I ⟨k,0,O⟩))):=(Zr_ _ _).setCell _ _ (.inl (by simp [h4]));have nek:k≠r.k:=h1.ux (Zp hc) (by decide);refine ⟨{r with bk:=I k},h1.ye m ?_ J J J J J J J (h1.scan.mod m (λ g hg=>by simpa using h1.rest (by simp [hg]))) (m.at hc (by simp [nek])),h2.mod m (by simp;rintro rfl;exact na kin) (by simp;rintro rfl;exact nb kin),
  ⟨h3.md.then m (λ g hg=>by simp at hg;subst hg;exact h3.gr r.k (by simp [kin])),λ g hg=>?_⟩,h4,h5,h6⟩
 ·have hk:=h1.hd;rw [h4] at hk ⊢
  exact Zd _ hk
 simp only [List.mem_cons,WP.mem] at hg;rcases hg with hg|hg|hg|hg|hg|hg|hg|hg
 ·exact h3.gr g (by simp [hg])
 ·exact h3.gr g (by simp [hg])
 ·exact h3.gr g (by simp [hg,kin])
 ·exact h3.gr g (by simp [WP.mem,hg])
 ·exact h3.gr g (by simp [WP.mem,hg])
 ·exact h3.gr g (by simp [WP.mem,hg])
 ·exact h3.gr g (by simp [WP.mem,hg])
 ·obtain rfl:=Zo_ hg;exact .inr hk
theorem Xd.vq (h:Xd w q a b x n s w1):Xd w q a b {x with back:=O} n s (w1.setCell ⟨q.k,18,O⟩ (E O)):=by
 obtain ⟨r,h1,h2,h3,h4,h5,h6⟩:=h;have na:=h1.zn h2;have nb:=h1.zm h2;have kin:r.k∈r.blocks:=WP.mem.2 (.inl J);have m:Ze [r.k] w1 (w1.setCell ⟨q.k,18,O⟩ (E O)):=(Zr_ _ _).setCell _ _ (.inl (by simp [h4]));refine ⟨{r with bk:=O},h1.ye m ?_ J J J J J J J (h1.scan.mod m (λ g hg=>by simpa using h1.rest (by simp [hg]))) trivial,h2.mod m (by simp;rintro rfl;exact na kin) (by simp;rintro rfl;exact nb kin),
  ⟨h3.md.then m (λ g hg=>by simp at hg;subst hg;exact h3.gr r.k (by simp [kin])),λ g hg=>?_⟩,h4,h5,h6⟩
 ·have hk:=h1.hd;rw [h4] at hk ⊢
  exact Zd _ hk
 simp only [List.mem_cons,WP.mem] at hg;rcases hg with hg|hg|hg|hg|hg|hg|hg|hg
 ·exact h3.gr g (by simp [hg])
 ·exact h3.gr g (by simp [hg])
 ·exact h3.gr g (by simp [hg,kin])
 ·exact h3.gr g (by simp [WP.mem,hg])
 ·exact h3.gr g (by simp [WP.mem,hg])
 ·exact h3.gr g (by simp [WP.mem,hg])
 ·exact h3.gr g (by simp [WP.mem,hg])
 ·cases hg
theorem Xd.kf (h:Xd w q a b x n s w1):∃ v,w1.cell? ⟨q.k,16,O⟩=I v/\w1.frozen? ⟨q.k,16,O⟩=false/\w1.ownsRow 0 51 1 v x.ql.length (x.ql.map (Z V))/\
  (∃ cs,w1.heap[q.k]? =I (.cells cs 161 (0,0))/\cs[16]? =I v)/\(∀ g,v.ownBlock=I g->g≠q.k)/\
  (∀ w5 w' v' y,Ze v.ownBlock.toList w1 w5->Jn w1 v v'->w5.ownsRow 0 51 1 v' (x.ql.length+1) ((x.ql++[y]).map (Z V))->w'=w5.setCell ⟨q.k,16,O⟩ v'->Xd w q a b {x with ql:=x.ql++[y]} n s w'):=by
 obtain ⟨r,h1,h2,h3,h4,h5,h6⟩:=h;have na:=h1.zn h2;have nb:=h1.zm h2;have kin:r.k∈r.blocks:=WP.mem.2 (.inl J);have c16:=h1.cell 16 (u:=r.vw) J;rw [h4] at c16;refine ⟨r.vw,c16.1,c16.2,h1.ql,⟨_,by rw [<-h4];exact h1.hd,J⟩,λ g hg=>by rw [<-h4];exact h1.rest (by simp [hg]),λ w5 w' v' y m5 ho hr hw'=>?_⟩;subst hw';have inw:∀ g∈r.vw.ownBlock.toList,g∈r.blocks:=λ g hg=>WP.mem.2 (by simp at hg;simp [hg]);have nk:r.k∉r.vw.ownBlock.toList:=λ hk=>h1.rest (g:=r.k) (by simp at hk;simp [hk]) J;have mk:Ze [r.k] w5 (w5.setCell ⟨q.k,16,O⟩ v'):=(Zr_ _ _).setCell _ _ (.inl (by simp [h4]));have m:Ze (r.k :: r.vw.ownBlock.toList) w1 (w5.setCell ⟨q.k,16,O⟩ v'):=(m5.mono (λ g hg=>.inl (by simp at hg ⊢;simp [hg]))).trans (mk.mono (λ g hg=>.inl (by simp at hg ⊢;simp [hg])));have hd5:=m5.at h1.hd nk;have hdk:(w5.setCell ⟨q.k,16,O⟩ v').heap[r.k]? =I (.cells (Js {r with vw:=v'} {x with ql:=x.ql++[y]}) 161 (0,0)):=by
  rw [h4] at hd5 ⊢
  exact Zd (i:=16) v' hd5
 have nv':∀ g,v'.ownBlock=I g->g≠r.k:=λ g hg e=>by
  subst e;have:=Zp hd5;rw [Yf hr hg] at this;exact absurd this (by decide)
 have out:∀ g,(g∈r.p.blocks\/r.va.ownBlock=I g\/r.sc=I g\/r.bk=I g)->g∉r.k :: r.vw.ownBlock.toList:=by
  intro g hg hm;simp only [List.mem_cons,Option.mem_toList] at hm;rcases hm with hm|hm
  ·exact h1.rest (g:=g) (by rcases hg with hg|hg|hg|hg <;> simp [hg]) hm
  ·have tg:=Yf h1.ql hm;rcases hg with hg|hg|hg|hg
   ·exact h1.nw g hm hg
   ·exact (h1.na g hg).1 hm
   ·rw [h1.scan.ty hg] at tg;exact absurd tg (by decide)
   ·rw [h1.back.ty hg] at tg;exact absurd tg (by decide)
 refine ⟨{r with vw:=v'},⟨hdk,h1.za.mod m (λ g hg=>out g (.inl hg)),Zt h1.args m (λ g hg=>out g (by simp [hg])),?_,h1.scan.mod m (λ g hg=>out g (by simp [hg])),h1.back.mod m (λ g hg=>out g (by simp [hg])),?_,?_⟩,
  h2.mod m (λ hh=>na (by simp only [List.mem_cons] at hh;rcases hh with rfl|hh;exact kin;exact inw _ hh)) (λ hh=>nb (by simp only [List.mem_cons] at hh;rcases hh with rfl|hh;exact kin;exact inw _ hh)),
  h3.trans ⟨m.mono (λ g hg=>.inl (by simp only [List.mem_cons] at hg ⊢;rcases hg with rfl|hg;simp [kin];simp [inw g hg])),λ g hg=>?_⟩,h4,h5,h6⟩
 ·have:=Zt hr mk (λ g hg=>by simp [nv' g hg]);simpa using this
 ·intro g hg;refine ⟨λ e=>?_,(h1.na g hg).2⟩;rcases ho with ho|⟨g',ho,hge⟩
  ·exact (h1.na g hg).1 (ho ▸ e)
  ·have e':v'.ownBlock=I g:=e;rw [ho] at e';obtain rfl:=Zo_ e';have:=Yr h1.args hg;omega
 ·intro g hg;rcases ho with ho|⟨g',ho,hge⟩
  ·exact h1.nw g (ho ▸ hg)
  ·have e':v'.ownBlock=I g:=hg;rw [ho] at e';obtain rfl:=Zo_ e';intro hk;have:=h1.za.lt hk;omega
 ·simp only [List.mem_cons,WP.mem] at hg ⊢
  rcases hg with hg|hg|hg|hg|hg|hg|hg|hg
  ·simp [hg]
  ·simp [hg]
  ·simp [hg]
  ·simp [hg]
  ·simp [hg]
  ·rcases ho with ho|⟨g',ho,hge⟩
   ·rw [ho] at hg;simp [hg]
   ·rw [ho] at hg;obtain rfl:=Zo_ hg;exact .inr hge
  ·simp [hg]
  ·simp [hg]
end
section
attribute [local go_sem] Zi
structure RP where
 k:Nat
 p:MP
 va:Value
 cm:Nat
 rd:Option Nat
 st:Int
def Kd (q:RP) (x:Z8):Array Value:=#[U Y 0,U Y 1,U Y 2,U Y 3,U Y (Z2 x.c1),U Y (Zw x.c0 x.c1),E (I ⟨q.p.mb,0,O⟩),U Y x.tag,q.va,U Y x.part,U Y q.st,U Y x.thread,E (I ⟨q.cm,0,O⟩),Nr q.rd]
def Ap (w:W):Option Nat->Option Yu->Prop
 |none,O=>True
 |some k,I c=>w.heap[k]? =I (.cells c.arr 287 (0,0))
 |_,_=>False
variable {w w' w0 w1 w2:W} {p p':MP} {q q':RP} {x x':Z8} {m:Zk} {a b:Nat} {s s':Zh} {S:List Nat} {r r':Yu}
def RP.blocks (q:RP):List Nat:=q.k :: q.cm :: (q.p.blocks++(q.va.ownBlock.toList++q.rd.toList))
structure Yc (w:W) (q:RP) (x:Z8):Prop where
 hd:w.heap[q.k]? =I (.cells (Kd q x) 168 (0,0))
 za:Zg w q.p x.m
 args:w.ownsRow 0 51 1 q.va x.args.length (x.args.map (Z V))
 qh:w.heap[q.cm]? =I (.cells x.qh.arr 189 (0,0))
 read:Ap w q.rd x.read
 na:∀ g,q.va.ownBlock=I g->g∉q.p.blocks
theorem RP.mem {k:Nat}:k∈q.blocks↔k=q.k\/k=q.cm\/k∈q.p.blocks\/q.va.ownBlock=I k\/q.rd=I k:=by
 unfold RP.blocks;simp [Option.mem_toList]
theorem Ap.ty {o:Option Nat} {c:Option Yu} (h:Ap w o c) {k:Nat} (hk:o=I k):Xt w k=I 287:=by
 subst hk;cases c with
 |none=>exact h.elim
 |some c=>exact Zp h
theorem Ap.mod {o:Option Nat} {c:Option Yu} (h:Ap w o c) (m:Ze S w w') (hS:∀ k,o=I k->k∉S):Ap w' o c:=by
 match o,c,h with
 |none,O,_=>trivial
 |some k,I c,h=>exact m.at h (hS k J)
def rTys:List (Option TypeId):=[I 168,I 185,I 202,I 204,I 200,O,I 106,I 51,I 3,I 53,I 189,I 287]
theorem Yc.ku (h:Yc w q x) {k:Nat} (hk:k∈q.blocks):Xt w k∈rTys:=by
 rw [RP.mem] at hk;rcases hk with rfl|rfl|hk|hk|hk
 ·rw [Zp h.hd];decide
 ·rw [Zp h.qh];decide
 ·have:=h.za.ku hk;simp only [rTys,List.mem_cons,or_false,List.not_mem_nil] at this ⊢
  rcases this with e|e|e|e|e|e|e|e|e <;> simp [e]
 ·rw [Yf h.args hk];decide
 ·rw [h.read.ty hk];decide
theorem Yc.lt (h:Yc w q x) {k:Nat} (hk:k∈q.blocks):k < w.heap.size:=by
 rw [RP.mem] at hk;rcases hk with rfl|rfl|hk|hk|hk
 ·exact B9 h.hd
 ·exact B9 h.qh
 ·exact h.za.lt hk
 ·exact Yr h.args hk
 ·exact Nw (h.read.ty hk)
theorem Yc.mod (h:Yc w q x) (m:Ze S w w') (hS:∀ k∈q.blocks,k∉S):Yc w' q x:=by
 have f:∀ k,(k=q.k\/k=q.cm\/k∈q.p.blocks\/q.va.ownBlock=I k\/q.rd=I k)->k∉S:=λ k hk=>hS k (RP.mem.2 hk);exact ⟨m.at h.hd (f _ (.inl J)),h.za.mod m (λ k hk=>f k (by simp [hk])),Zt h.args m (λ g hg=>f g (by simp [hg])),m.at h.qh (f _ (by simp)),h.read.mod m (λ g hg=>f g (by simp [hg])),h.na⟩
theorem Yc.zn (h:Yc w q x) (hM:Zj 137 w a b s):a∉q.blocks:=λ hk=>by
 have:=h.ku hk;rw [hM.ta] at this;exact absurd this (by decide)
theorem Yc.zm (h:Yc w q x) (hM:Zj 137 w a b s):b∉q.blocks:=λ hk=>by
 have:=h.ku hk;rw [hM.tb] at this;exact absurd this (by decide)
theorem Yc.ux (h:Yc w q x) {g:Nat} {t:Option TypeId} (hg:Xt w g=t) (ht:t≠I 168):g≠q.k:=λ e=>ht (by rw [<-hg,e];exact Zp h.hd)
theorem Yc.rest (h:Yc w q x) {g:Nat} (hg:g=q.cm\/g∈q.p.blocks\/q.va.ownBlock=I g\/q.rd=I g):g≠q.k:=by
 rintro rfl;have tk:=Zp h.hd;rcases hg with hg|hg|hg|hg
 ·have:=Zp h.qh;rw [<-hg,tk] at this;exact absurd this (by decide)
 ·have:=h.za.ku hg;rw [tk] at this;exact absurd this (by decide)
 ·exact absurd (tk.symm.trans (Yf h.args hg)) (by decide)
 ·exact absurd (tk.symm.trans (h.read.ty hg)) (by decide)
theorem Yc.j6 (h:Yc w q x) (m:Ze [q.k] w w') (hd:w'.heap[q.k]? =I (.cells (Kd q' x') 168 (0,0)))
  (e1:q'.k=q.k) (e2:q'.p=q.p) (e3:q'.va=q.va) (e4:q'.cm=q.cm) (f1:x'.m=x.m) (f2:x'.args=x.args) (f3:x'.qh=x.qh) (hr:Ap w' q'.rd x'.read):Yc w' q' x':=by
 have ne:∀ g,(g=q.cm\/g∈q.p.blocks\/q.va.ownBlock=I g\/q.rd=I g)->g∉[q.k]:=λ g hg=>by simpa using h.rest hg
 refine ⟨by rw [e1];exact hd,?_,?_,?_,hr,?_⟩
 ·rw [e2,f1];exact h.za.mod m (λ k hk=>ne k (by simp [hk]))
 ·rw [e3,f2];exact Zt h.args m (λ g hg=>ne g (by simp [hg]))
 ·rw [e4,f3];exact m.at h.qh (ne _ (by simp))
 ·rw [e2,e3];exact h.na
theorem Yc.cell (h:Yc w q x) (i:Nat) {u:Value} (hu:(Kd q x)[i]? =I u):w.cell? ⟨q.k,i,O⟩=I u/\w.frozen? ⟨q.k,i,O⟩=false:=
 ⟨Za h.hd hu,Zb h.hd⟩
theorem Yc.yy (h:Yc w q x) (d:Zl w q.p m w'):∃ p',Yc w' {q with p:=p'} {x with m:=m}/\Dt w q.p w' p':=by
 obtain ⟨p',hm,F⟩:=d;have nk:q.k∉q.p.blocks:=λ hk=>h.rest (.inr (.inl hk)) J;have nc:q.cm∉q.p.blocks:=λ hk=>by have:=h.za.ku hk;rw [Zp h.qh] at this;exact absurd this (by decide)
 have jl:∀ g,g < w.heap.size->g∉q.p.blocks->g∉p'.blocks:=λ g hl hg hk=>(F.gr g hk).elim hg (λ hs=>by omega);refine ⟨p',⟨?_,hm,?_,F.md.at h.qh nc,?_,?_⟩,F⟩
 ·have:=F.md.at h.hd nk;rw [this];unfold Kd;rw [F.mb]
 ·exact Zt h.args F.md (λ g hg=>h.na g hg)
 ·exact h.read.mod F.md (λ g hg hk=>by have:=h.za.ku hk;rw [h.read.ty hg] at this;exact absurd this (by decide))
 ·exact λ g hg=>jl g (Yr h.args hg) (h.na g hg)
def Qv (w:W) (q:RP) (a b:Nat) (x:Z8) (s:Zh) (w':W):Prop:=
 ∃ q',Yc w' q' x/\Zj 137 w' a b s/\I5 w (a :: b :: q.blocks) w' (a :: b :: q'.blocks)/\q'.k=q.k/\q'.p.mb=q.p.mb/\q'.cm=q.cm
theorem Qv.same (h:Yc w q x) (hM:Zj 137 w a b s):Qv w q a b x s w:=⟨q,h,hM,I5.refl _ _,J,J,J⟩
theorem Qv.xd (h:Qv w q a b x s w1) (hM:Zj 137 w' a b s') (m:Ze [a,b] w1 w'):Qv w q a b x s' w':=by
 obtain ⟨r,h1,h2,h3,h4⟩:=h;have na:=h1.zn h2;have nb:=h1.zm h2;exact ⟨r,h1.mod m (λ k hk hm=>by simp at hm;rcases hm with rfl|rfl;exact na hk;exact nb hk),hM,h3.trans (.of m (λ k hk=>.inl (by simp at hk ⊢;rcases hk with rfl|rfl <;> simp))),h4⟩
theorem Qv.xi (h:Qv w q a b x s w1) (m:Ze [] w1 w'):Qv w q a b x s w':=by
 obtain ⟨r,h1,h2,h3,h4⟩:=h;exact Qv.xd ⟨r,h1,h2,h3,h4⟩ (h2.mod m (by simp) (by simp)) (m.qj _)
theorem Qv.alloc (h:Qv w q a b x s w1) (o:Obj):Qv w q a b x s (w1.alloc o):=h.xi ((Zr_ _ _).alloc _)
theorem Qv.drew (h:Qv w q a b x s w1):Qv w q a b x s w1.drew:=h.xi ((Zr_ _ _).drew)
theorem Qv.lt (h:Qv w q a b x s w1):q.k < w1.heap.size:=by
 obtain ⟨r,h1,_,_,h4,_⟩:=h;rw [<-h4];exact B9 h1.hd
theorem Qv.xe (h:Qv w q a b x s w1):Zj 137 w1 a b s:=by
 obtain ⟨_,_,hM,_⟩:=h;exact hM
theorem Qv.size (h:Qv w q a b x s w1):w.heap.size<=w1.heap.size:=by
 obtain ⟨r,_,_,h3,_⟩:=h;exact h3.md.size
theorem Qv.cell (h:Qv w q a b x s w1) (i:Nat) {u:Value} (hu:∀ r:RP,r.p.mb=q.p.mb->r.cm=q.cm->(Kd r x)[i]? =I u):w1.cell? ⟨q.k,i,O⟩=I u/\w1.frozen? ⟨q.k,i,O⟩=false:=by
 obtain ⟨r,h1,_,_,h4,h5,h6⟩:=h;rw [<-h4];exact h1.cell i (hu r h5 h6)
theorem Qv.xu (h:Qv w q a b x s w1):∃ u,w1.cell? ⟨q.k,10,O⟩=I (U Y u)/\w1.frozen? ⟨q.k,10,O⟩=false:=by
 obtain ⟨r0,h1,h2,h3,h4,h5⟩:=h;have:=h1.cell 10 (u:=U Y r0.st) J;rw [h4] at this;exact ⟨_,this⟩
theorem Qv.uy (h:Qv w q a b x s w1):w1.heap[q.cm]? =I (.cells x.qh.arr 189 (0,0))/\∀ w' c' s',Zj 137 w' a b s'->w'.heap[q.cm]? =I (.cells c'.arr 189 (0,0))->Ze [a,b,q.cm] w1 w'->Qv w q a b {x with qh:=c'} s' w':=by
 obtain ⟨r,h1,h2,h3,h4,h5,h6⟩:=h;have na:=h1.zn h2;have nb:=h1.zm h2;have hc:=h1.qh;have tk:=Zp hc;rw [h6] at hc tk;refine ⟨hc,λ w' c' s' M' hc' m=>?_⟩;have f:∀ g,(g=r.k\/g∈r.p.blocks\/r.va.ownBlock=I g\/r.rd=I g)->Xt w1 g≠I 189->g∉[a,b,q.cm]:=by
  intro g hg ht hm;have hb:g∈r.blocks:=RP.mem.2 (by rcases hg with hg|hg|hg|hg <;> simp [hg]);simp at hm;rcases hm with rfl|rfl|rfl
  ·exact na hb
  ·exact nb hb
  ·exact ht tk
 refine ⟨r,⟨m.at h1.hd (f _ (.inl J) (by rw [Zp h1.hd];decide)),h1.za.mod m (λ g hg=>f g (by simp [hg]) (λ e=>by have:=h1.za.ku hg;rw [e] at this;exact absurd this (by decide))),
  Zt h1.args m (λ g hg=>f g (by simp [hg]) (by rw [Yf h1.args hg];decide)),by rw [h6];exact hc',h1.read.mod m (λ g hg=>f g (by simp [hg]) (by rw [h1.read.ty hg];decide)),h1.na⟩,M',
  h3.trans (.of m (λ g hg=>.inl ?_)),h4,h5,h6⟩
 simp only [List.mem_cons,List.not_mem_nil,or_false] at hg;simp only [List.mem_cons,RP.mem];rcases hg with rfl|rfl|rfl
 ·exact .inl J
 ·exact .inr (.inl J)
 ·exact .inr (.inr (by simp [h6]))
theorem Qv.jk (h:Qv w q a b x s w1) (i:Nat) (u:Value) (x':Z8) (hc:∀ r:RP,(Kd r x).setIfInBounds i u=Kd r x')
  (f1:x'.m=x.m) (f2:x'.args=x.args) (f3:x'.qh=x.qh) (f4:x'.read=x.read):Qv w q a b x' s (w1.setCell ⟨q.k,i,O⟩ u):=by
 obtain ⟨r,h1,h2,h3,h4,h5,h6⟩:=h;have na:=h1.zn h2;have nb:=h1.zm h2;have kin:r.k∈r.blocks:=RP.mem.2 (.inl J);have m:Ze [r.k] w1 (w1.setCell ⟨q.k,i,O⟩ u):=(Zr_ _ _).setCell _ _ (.inl (by simp [h4]));refine ⟨r,h1.j6 m ?_ J J J J f1 f2 f3 (by rw [f4];exact h1.read.mod m (λ g hg=>by simpa using h1.rest (by simp [hg]))),h2.mod m (by simp;rintro rfl;exact na kin) (by simp;rintro rfl;exact nb kin),h3.trans (.of m (λ k hk=>.inl (by simp at hk;simp [hk,kin]))),h4,h5,h6⟩;rw [<-hc r,h4];exact Zd _ (by rw [<-h4];exact h1.hd)
theorem Qv.kg (h:Qv w q a b x s w1) (u:Int):Qv w q a b x s (w1.setCell ⟨q.k,10,O⟩ (U Y u)):=by
 obtain ⟨r,h1,h2,h3,h4,h5,h6⟩:=h;have na:=h1.zn h2;have nb:=h1.zm h2;have kin:r.k∈r.blocks:=RP.mem.2 (.inl J);have m:Ze [r.k] w1 (w1.setCell ⟨q.k,10,O⟩ (U Y u)):=(Zr_ _ _).setCell _ _ (.inl (by simp [h4]));refine ⟨{r with st:=u},h1.j6 m ?_ J J J J J J J (h1.read.mod m (λ g hg=>by simpa using h1.rest (by simp [hg]))),h2.mod m (by simp;rintro rfl;exact na kin) (by simp;rintro rfl;exact nb kin),h3.trans (.of m (λ k hk=>.inl (by simp at hk;simp [hk,kin]))),h4,h5,h6⟩;rw [h4];have hk:=h1.hd;rw [h4] at hk;exact Zd _ hk
theorem Qv.za (h:Qv w q a b x s w1):∃ p,Zg w1 p x.m/\p.mb=q.p.mb/\∀ w' m,Zl w1 p m w'->Qv w q a b {x with m:=m} s w'/\∀ i,w'.cell? ⟨q.k,i,O⟩=w1.cell? ⟨q.k,i,O⟩:=by
 obtain ⟨r,h1,h2,h3,h4,h5,h6⟩:=h;refine ⟨r.p,h1.za,h5,λ w' m d=>?_⟩;obtain ⟨p',k1,F⟩:=h1.yy d;have na:=h1.zn h2;have nb:=h1.zm h2;have sub:∀ k∈r.p.blocks,k∈r.blocks:=λ k hk=>RP.mem.2 (.inr (.inr (.inl hk)));refine ⟨?_,λ i=>by
  have e1:=F.md.at h1.hd (λ hk=>h1.rest (.inr (.inl hk)) J);have e2:=h1.hd;rw [h4] at e1 e2;unfold World.cell?;simp only [e1,e2]⟩
 refine ⟨_,k1,h2.mod F.md (λ hk=>na (sub _ hk)) (λ hk=>nb (sub _ hk)),h3.trans ⟨F.md.mono (λ k hk=>.inl (by simp [sub k hk])),λ k hk=>?_⟩,h4,F.mb.trans h5,h6⟩;simp only [List.mem_cons,RP.mem] at hk ⊢
 rcases hk with hk|hk|hk|hk|hk|hk
 ·exact .inl (.inl hk)
 ·exact .inl (.inr (.inl hk))
 ·exact .inl (.inr (.inr (.inl hk)))
 ·exact .inl (.inr (.inr (.inr (.inl hk))))
 ·exact (F.gr k hk).imp (λ h=>.inr (.inr (.inr (.inr (.inl h))))) id
 ·exact .inl (.inr (.inr (.inr (.inr (.inr hk)))))
theorem Qv.read (h:Qv w q a b x s w1) (hc:x.read=I r):∃ k,w1.heap[k]? =I (.cells r.arr 287 (0,0))/\w1.cell? ⟨q.k,13,O⟩=I (E (I ⟨k,0,O⟩))/\w1.frozen? ⟨q.k,13,O⟩=false/\
  ∀ w' r' s',Zj 137 w' a b s'->w'.heap[k]? =I (.cells r'.arr 287 (0,0))->Ze [a,b,k] w1 w'->Qv w q a b {x with read:=I r'} s' w'/\w'.cell? ⟨q.k,13,O⟩=I (E (I ⟨k,0,O⟩)):=by
 obtain ⟨r0,h1,h2,h3,h4,h5,h6⟩:=h;have na:=h1.zn h2;have nb:=h1.zm h2;have hs:=h1.read;rw [hc] at hs;have:∃ k,r0.rd=I k:=by
  cases e:r0.rd with
  |none=>rw [e] at hs;exact hs.elim
  |some k=>exact ⟨k,J⟩
 obtain ⟨k,hk⟩:=this;rw [hk] at hs;have tk:=Zp hs;have c13:=h1.cell 13 (u:=Nr r0.rd) J;rw [hk,h4] at c13;refine ⟨k,hs,c13.1,c13.2,λ w' r' s' M' hc' m=>?_⟩;have f:∀ g,(g=r0.k\/g=r0.cm\/g∈r0.p.blocks\/r0.va.ownBlock=I g)->Xt w1 g≠I 287->g∉[a,b,k]:=by
  intro g hg ht hm;have hb:g∈r0.blocks:=RP.mem.2 (by rcases hg with hg|hg|hg|hg <;> simp [hg]);simp at hm;rcases hm with rfl|rfl|rfl
  ·exact na hb
  ·exact nb hb
  ·exact ht tk
 have R:Yc w' r0 {x with read:=I r'}:=⟨m.at h1.hd (f _ (.inl J) (by rw [Zp h1.hd];decide)),h1.za.mod m (λ g hg=>f g (by simp [hg]) (λ e=>by have:=h1.za.ku hg;rw [e] at this;exact absurd this (by decide))),
  Zt h1.args m (λ g hg=>f g (by simp [hg]) (by rw [Yf h1.args hg];decide)),m.at h1.qh (f _ (by simp) (by rw [Zp h1.qh];decide)),by rw [hk];exact hc',h1.na⟩
 refine ⟨⟨r0,R,M',h3.trans (.of m (λ g hg=>.inl ?_)),h4,h5,h6⟩,?_⟩
 ·simp only [List.mem_cons,List.not_mem_nil,or_false] at hg;simp only [List.mem_cons,RP.mem];rcases hg with rfl|rfl|rfl
  ·exact .inl J
  ·exact .inr (.inl J)
  ·exact .inr (.inr (by simp [hk]))
 ·have:=(R.cell 13 (u:=Nr r0.rd) J).1;rw [hk,h4] at this;exact this
theorem Qv.yf (h:Qv w q a b x s w1) (hc:x.read=O):w1.cell? ⟨q.k,13,O⟩=I (E O)/\w1.frozen? ⟨q.k,13,O⟩=false:=by
 obtain ⟨r0,h1,h2,h3,h4,h5,h6⟩:=h;have hs:=h1.read;rw [hc] at hs;have e:r0.rd=O:=by
  cases e:r0.rd with
  |none=>rfl
  |some k=>rw [e] at hs;exact hs.elim
 have:=h1.cell 13 (u:=Nr r0.rd) J;rw [e,h4] at this;exact this
theorem Qv.uo (h:Qv w q a b x s w1) {k:Nat} (hc:w1.heap[k]? =I (.cells r'.arr 287 (0,0))) (hk:w.heap.size<=k):
  Qv w q a b {x with read:=I r'} s (w1.setCell ⟨q.k,13,O⟩ (E (I ⟨k,0,O⟩))):=by
 obtain ⟨r,h1,h2,h3,h4,h5,h6⟩:=h;have na:=h1.zn h2;have nb:=h1.zm h2;have kin:r.k∈r.blocks:=RP.mem.2 (.inl J);have m:Ze [r.k] w1 (w1.setCell ⟨q.k,13,O⟩ (E (I ⟨k,0,O⟩))):=(Zr_ _ _).setCell _ _ (.inl (by simp [h4]));have nek:k≠r.k:=h1.ux (Zp hc) (by decide);refine ⟨{r with rd:=I k},h1.j6 m ?_ J J J J J J J (m.at hc (by simp [nek])),h2.mod m (by simp;rintro rfl;exact na kin) (by simp;rintro rfl;exact nb kin),
  ⟨h3.md.then m (λ g hg=>by simp at hg;subst hg;exact h3.gr r.k (by simp [kin])),λ g hg=>?_⟩,h4,h5,h6⟩
 ·have hk:=h1.hd;rw [h4] at hk ⊢
  exact Zd _ hk
 simp only [List.mem_cons,RP.mem] at hg;rcases hg with hg|hg|hg|hg|hg|hg|hg
 ·exact h3.gr g (by simp [hg])
 ·exact h3.gr g (by simp [hg])
 ·exact h3.gr g (by simp [hg,kin])
 ·exact h3.gr g (by simp [RP.mem,hg])
 ·exact h3.gr g (by simp [RP.mem,hg])
 ·exact h3.gr g (by simp [RP.mem,hg])
 ·obtain rfl:=Zo_ hg;exact .inr hk
theorem Qv.ya (h:Qv w q a b x s w1):Qv w q a b {x with read:=O} s (w1.setCell ⟨q.k,13,O⟩ (E O)):=by
 obtain ⟨r,h1,h2,h3,h4,h5,h6⟩:=h;have na:=h1.zn h2;have nb:=h1.zm h2;have kin:r.k∈r.blocks:=RP.mem.2 (.inl J);have m:Ze [r.k] w1 (w1.setCell ⟨q.k,13,O⟩ (E O)):=(Zr_ _ _).setCell _ _ (.inl (by simp [h4]));refine ⟨{r with rd:=O},h1.j6 m ?_ J J J J J J J trivial,h2.mod m (by simp;rintro rfl;exact na kin) (by simp;rintro rfl;exact nb kin),
  ⟨h3.md.then m (λ g hg=>by simp at hg;subst hg;exact h3.gr r.k (by simp [kin])),λ g hg=>?_⟩,h4,h5,h6⟩
 ·have hk:=h1.hd;rw [h4] at hk ⊢
  exact Zd _ hk
 simp only [List.mem_cons,RP.mem] at hg;rcases hg with hg|hg|hg|hg|hg|hg|hg
 ·exact h3.gr g (by simp [hg])
 ·exact h3.gr g (by simp [hg])
 ·exact h3.gr g (by simp [hg,kin])
 ·exact h3.gr g (by simp [RP.mem,hg])
 ·exact h3.gr g (by simp [RP.mem,hg])
 ·exact h3.gr g (by simp [RP.mem,hg])
 ·cases hg
end
section
attribute [local go_sem] Zi
attribute [local go_sem] Qg Xo
variable {w w' w0 w1 w2:W} {p p':MP} {q q':WP} {x x':Zv} {m:Zk} {a b:Nat} {s s':Zh} {S:List Nat} {n:Value}
theorem waits_c (h:Xd w q a b x n s w1) (hn:n=Xi 2) (hp:x.part=2):Calls N 89 #[E (I ⟨q.k,0,O⟩),E (I ⟨a,0,O⟩)] w1 (Cj w q a b ({x with part:=if s.look 1 x.qc=true then 3 else 2}) (s.load 1)):=by
 have c1:=(h.cell 1 (u:=U Y 0) (λ _ _ _=>J)).1;have c2:=(h.cell 2 (u:=U Y 1) (λ _ _ _=>J)).1;have c3:=(h.cell 3 (u:=U Y 2) (λ _ _ _=>J)).1;have c4:=(h.cell 4 (u:=U Y 3) (λ _ _ _=>J)).1;have c5:=(h.cell 5 (u:=U Y (Z2 x.c1)) (λ _ _ _=>J)).1;have c6:=(h.cell 6 (u:=U Y (Zw x.c0 x.c1)) (λ _ _ _=>J)).1;have c13:=(h.cell 13 (u:=U Y_ x.qc) (λ _ _ _=>J)).1;have hM:=h.xe.drew;have H:=Zh_ h;have NX:=Zh_ hn;have HX:=Zh_ (show x={x with part:=2} by cases x;simp at hp ⊢;exact hp);obtain ⟨z,hz⟩:∃ z,z=s.look 1 x.qc:=⟨_,J⟩;have hlt:=h.lt;clear h hn;rw [<-hz];have hL:=λ w' (h:Zj 137 w' a b s)=>look_c h 0 1 2 3 (Z2 x.c1) (Zw x.c0 x.c1) x.qc;rw [<-hz] at hL;clear hz;replace hL:=hL _ hM;go_enter func89,ntmps89;go_upto_region 0 with fail
 go_cut [4,5] (λ A B wx=>A=.bool z/\B=U Y (s.acc 1)/\Xd w q a b x n (s.load 1) wx)
 case first=>
  go_region_held3 (λ wx=>wx.cell? ⟨q.k,1,O⟩=I (U Y 0)/\wx.cell? ⟨q.k,2,O⟩=I (U Y 1)/\wx.cell? ⟨q.k,3,O⟩=I (U Y 2)/\wx.cell? ⟨q.k,4,O⟩=I (U Y 3)/\wx.cell? ⟨q.k,5,O⟩=I (U Y (Z2 x.c1))/\wx.cell? ⟨q.k,6,O⟩=I (U Y (Zw x.c0 x.c1))/\wx.cell? ⟨q.k,13,O⟩=I (U Y_ x.qc)) (first|exact ⟨c1,c2,c3,c4,c5,c6,c13⟩|exact ⟨d1,d2,d3,d4,d5,d6,d13⟩)
   (first|(go_at_call 106;refine (hL).mono ?_;rintro e w2 ⟨rfl,M2,m2⟩;have G2:=Zh_ (H.out.drew.xd M2 m2);have d1:=(G2.out.cell 1 (u:=U Y 0) (λ _ _ _=>J)).1;have d2:=(G2.out.cell 2 (u:=U Y 1) (λ _ _ _=>J)).1;have d3:=(G2.out.cell 3 (u:=U Y 2) (λ _ _ _=>J)).1;have d4:=(G2.out.cell 4 (u:=U Y 3) (λ _ _ _=>J)).1;have d5:=(G2.out.cell 5 (u:=U Y (Z2 x.c1)) (λ _ _ _=>J)).1;have d6:=(G2.out.cell 6 (u:=U Y (Zw x.c0 x.c1)) (λ _ _ _=>J)).1;have d13:=(G2.out.cell 13 (u:=U Y_ x.qc) (λ _ _ _=>J)).1))
  all_goals
   go_wp2_with fail;go_meet;exact ⟨J,J,G2.out⟩
 case rest=>
  obtain ⟨rfl,rfl,G2⟩:=hcut;clear c1 c2 c3 c4 c5 c6 c13;have hlt:=G2.lt;have G2:=Zh_ G2;cases z
  ·go_wp2;go_end0;exact ⟨J,n,HX.out ▸ G2.out,λ _=>NX.out⟩
  ·go_wp2_with fail;refine (Uq G2.out 3 (by decide) (by decide)).mono ?_;rintro e w3 ⟨rfl,G3⟩;go_wp2;go_end0;exact ⟨J,G3⟩
theorem Lf (h:Xd w q a b x n s w1):Calls N 94 #[E (I ⟨q.k,0,O⟩),E (I ⟨a,0,O⟩)] w1 (Cj w q a b ({x with number:=wrap64 (u64 (x.qg+1)),part:=8}) (s.store 2 (u64 (x.qg+1)))):=by
 have c1:=(h.cell 1 (u:=U Y 0) (λ _ _ _=>J)).1;have c2:=(h.cell 2 (u:=U Y 1) (λ _ _ _=>J)).1;have c3:=(h.cell 3 (u:=U Y 2) (λ _ _ _=>J)).1;have c4:=(h.cell 4 (u:=U Y 3) (λ _ _ _=>J)).1;have c5:=(h.cell 5 (u:=U Y (Z2 x.c1)) (λ _ _ _=>J)).1;have c6:=(h.cell 6 (u:=U Y (Zw x.c0 x.c1)) (λ _ _ _=>J)).1;have c14:=(h.cell 14 (u:=U Y_ x.qg) (λ _ _ _=>J)).1;have hM:=h.xe.drew;have H:=Zh_ h;have hlt:=h.lt;clear h;have hL:=Eo hM 0 1 2 3 (Z2 x.c1) (Zw x.c0 x.c1) (IntKind.u64.wrap (x.qg+1));go_enter func94,ntmps94;go_upto_region 0 with fail
 go_cut [14] (λ A wx=>A=U Y (s.acc 2)/\Xd w q a b x n (s.store 2 (u64 (x.qg+1))) wx)
 case first=>
  go_region_held3 (λ wx=>wx.cell? ⟨q.k,1,O⟩=I (U Y 0)/\wx.cell? ⟨q.k,2,O⟩=I (U Y 1)/\wx.cell? ⟨q.k,3,O⟩=I (U Y 2)/\wx.cell? ⟨q.k,4,O⟩=I (U Y 3)/\wx.cell? ⟨q.k,5,O⟩=I (U Y (Z2 x.c1))/\wx.cell? ⟨q.k,6,O⟩=I (U Y (Zw x.c0 x.c1))/\wx.cell? ⟨q.k,14,O⟩=I (U Y_ x.qg)) (first|exact ⟨c1,c2,c3,c4,c5,c6,c14⟩|exact ⟨d1,d2,d3,d4,d5,d6,d14⟩)
   (first|(go_at_call 117;refine (hL).mono ?_;rintro e w2 ⟨rfl,M2,m2⟩;have G2:=Zh_ (H.out.drew.xd M2 m2);have d1:=(G2.out.cell 1 (u:=U Y 0) (λ _ _ _=>J)).1;have d2:=(G2.out.cell 2 (u:=U Y 1) (λ _ _ _=>J)).1;have d3:=(G2.out.cell 3 (u:=U Y 2) (λ _ _ _=>J)).1;have d4:=(G2.out.cell 4 (u:=U Y 3) (λ _ _ _=>J)).1;have d5:=(G2.out.cell 5 (u:=U Y (Z2 x.c1)) (λ _ _ _=>J)).1;have d6:=(G2.out.cell 6 (u:=U Y (Zw x.c0 x.c1)) (λ _ _ _=>J)).1;have d14:=(G2.out.cell 14 (u:=U Y_ x.qg) (λ _ _ _=>J)).1))
  all_goals
   go_wp2_with fail;go_meet;exact ⟨J,G2.out⟩
 case rest=>
  obtain ⟨rfl,G2⟩:=hcut;clear c1 c2 c3 c4 c5 c6 c14;have e14:=(G2.cell 14 (u:=U Y_ x.qg) (λ _ _ _=>J)).1;have e15:=(G2.cell 15 (u:=U Y x.number) (λ _ _ _=>J)).1;have fe15:=(G2.cell 15 (u:=U Y x.number) (λ _ _ _=>J)).2;have hlt:=G2.lt;have G2:=Zh_ G2;go_wp2_with fail;refine (Uq (Xd.jk (x':={x with number:=wrap64 (u64 (x.qg+1))}) G2.out 15 _ (λ _=>J) J J J J J) 8 (by decide) (by decide)).mono ?_;rintro e w3 ⟨rfl,G3⟩;go_wp2;go_end0;exact ⟨J,G3⟩
theorem passes_c (h:Xd w q a b x n s w1):Calls N 95 #[E (I ⟨q.k,0,O⟩),E (I ⟨a,0,O⟩)] w1 (Cj w q a b ({x with part:=9}) (s.store 1 (u64 (x.qc+1)))):=by
 have c1:=(h.cell 1 (u:=U Y 0) (λ _ _ _=>J)).1;have c2:=(h.cell 2 (u:=U Y 1) (λ _ _ _=>J)).1;have c3:=(h.cell 3 (u:=U Y 2) (λ _ _ _=>J)).1;have c4:=(h.cell 4 (u:=U Y 3) (λ _ _ _=>J)).1;have c5:=(h.cell 5 (u:=U Y (Z2 x.c1)) (λ _ _ _=>J)).1;have c6:=(h.cell 6 (u:=U Y (Zw x.c0 x.c1)) (λ _ _ _=>J)).1;have c13:=(h.cell 13 (u:=U Y_ x.qc) (λ _ _ _=>J)).1;have hM:=h.xe.drew;have H:=Zh_ h;have hlt:=h.lt;clear h;have hL:=pass_c hM 0 1 2 3 (Z2 x.c1) (Zw x.c0 x.c1) x.qc;go_enter func95,ntmps95;go_upto_region 0 with fail
 go_cut [13] (λ A wx=>A=U Y (s.acc 1)/\Xd w q a b x n (s.store 1 (u64 (x.qc+1))) wx)
 case first=>
  go_region_held3 (λ wx=>wx.cell? ⟨q.k,1,O⟩=I (U Y 0)/\wx.cell? ⟨q.k,2,O⟩=I (U Y 1)/\wx.cell? ⟨q.k,3,O⟩=I (U Y 2)/\wx.cell? ⟨q.k,4,O⟩=I (U Y 3)/\wx.cell? ⟨q.k,5,O⟩=I (U Y (Z2 x.c1))/\wx.cell? ⟨q.k,6,O⟩=I (U Y (Zw x.c0 x.c1))/\wx.cell? ⟨q.k,13,O⟩=I (U Y_ x.qc)) (first|exact ⟨c1,c2,c3,c4,c5,c6,c13⟩|exact ⟨d1,d2,d3,d4,d5,d6,d13⟩)
   (first|(go_at_call 118;refine (hL).mono ?_;rintro e w2 ⟨rfl,M2,m2⟩;have G2:=Zh_ (H.out.drew.xd M2 m2);have d1:=(G2.out.cell 1 (u:=U Y 0) (λ _ _ _=>J)).1;have d2:=(G2.out.cell 2 (u:=U Y 1) (λ _ _ _=>J)).1;have d3:=(G2.out.cell 3 (u:=U Y 2) (λ _ _ _=>J)).1;have d4:=(G2.out.cell 4 (u:=U Y 3) (λ _ _ _=>J)).1;have d5:=(G2.out.cell 5 (u:=U Y (Z2 x.c1)) (λ _ _ _=>J)).1;have d6:=(G2.out.cell 6 (u:=U Y (Zw x.c0 x.c1)) (λ _ _ _=>J)).1;have d13:=(G2.out.cell 13 (u:=U Y_ x.qc) (λ _ _ _=>J)).1))
  all_goals
   go_wp2_with fail;go_meet;exact ⟨J,G2.out⟩
 case rest=>
  obtain ⟨rfl,G2⟩:=hcut;clear c1 c2 c3 c4 c5 c6 c13;have hlt:=G2.lt;have G2:=Zh_ G2;go_wp2_with fail;refine (Uq G2.out 9 (by decide) (by decide)).mono ?_;rintro e w3 ⟨rfl,G3⟩;go_wp2;go_end0;exact ⟨J,G3⟩
theorem scans_c (h:Xd w q a b x n s w1) (hn:n=Xi 5) (hp:x.part=5) {c:Z4} (hc:x.scan=I c) (hi:c.Inv) (hl:x.ql.length<=4096):Calls N 92 #[E (I ⟨q.k,0,O⟩),E (I ⟨a,0,O⟩)] w1 (Cj w q a b (x.jc s).1 (x.jc s).2):=by
 have NX:=Zh_ hn;have hM:=h.xe;have e1:(x.jc s).1={x with scan:=I (c.next s),part:=if c.qf s=true then (if 0 < x.ql.length then 6 else 7) else 5}:=by unfold Zv.jc;rw [hc]
 have e2:(x.jc s).2=c.mem s:=by unfold Zv.jc;rw [hc]
 rw [e1,e2];clear e1 e2;have HX:=Zh_ (show {x with scan:=I (c.next s)}={x with scan:=I (c.next s),part:=5} by cases x;simp at hp ⊢;exact hp);obtain ⟨k,hk,c17,hput⟩:=h.scan hc;have hlt:=h.lt;have hL:=Sd hM c hi hk;obtain ⟨z,hz⟩:∃ z,z=c.qf s:=⟨_,J⟩;rw [<-hz] at hL ⊢
 clear hz;have HP:=Zh_ hput;clear hput hk hM hp hn hc h hi;cases z
 ·rw [Q9 (by decide)];go_enter func92,ntmps92;go_wp2_with fail;refine hL.mono ?_;rintro e w2 ⟨rfl,M2,k2,m2⟩;have G2:=HP.out _ _ _ M2 k2 m2;clear c17 M2 k2 m2 hL HP;have hlt:=G2.lt;have G2:=Zh_ G2;go_wp2;go_end0;exact ⟨J,n,HX.out ▸ G2.out,λ _=>NX.out⟩
 ·rw [P9 rfl]
  by_cases h0:0 < x.ql.length
  ·rw [P9 h0];have hd:decide (0 < x.ql.length)=true:=decide_eq_true h0;clear h0;go_enter func92,ntmps92;go_wp2_with fail;refine hL.mono ?_;rintro e w2 ⟨rfl,M2,k2,m2⟩;have G2:=HP.out _ _ _ M2 k2 m2;clear c17 M2 k2 m2 hL HP;obtain ⟨v,v16,f16,hv,-,-,-⟩:=G2.kf;obtain ⟨av,cap,rfl⟩:=Zo hv;clear hv;have hlt:=G2.lt;have G2:=Zh_ G2;go_wp2_with fail;refine (Uq G2.out 6 (by decide) (by decide)).mono ?_;rintro e w3 ⟨rfl,G3⟩;go_wp2;go_end0;exact ⟨J,G3⟩
  ·rw [Q9 h0];have hd:decide (0 < x.ql.length)=false:=D9 h0;clear h0;go_enter func92,ntmps92;go_wp2_with fail;refine hL.mono ?_;rintro e w2 ⟨rfl,M2,k2,m2⟩;have G2:=HP.out _ _ _ M2 k2 m2;clear c17 M2 k2 m2 hL HP;obtain ⟨v,v16,f16,hv,-,-,-⟩:=G2.kf;obtain ⟨av,cap,rfl⟩:=Zo hv;clear hv;have hlt:=G2.lt;have G2:=Zh_ G2;go_wp2_with fail;refine (Uq G2.out 7 (by decide) (by decide)).mono ?_;rintro e w3 ⟨rfl,G3⟩;go_wp2;go_end0;exact ⟨J,G3⟩
end
end Go.Proofs.YtkhonmhnchdpkaaGreat
