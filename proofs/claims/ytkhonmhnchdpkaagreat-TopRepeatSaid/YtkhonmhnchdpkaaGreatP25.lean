/- A part of the proof; no condition. -/
import Derived.Test.YtkhonmhnchdpkaaGreatP24
set_option maxRecDepth 100000
set_option maxHeartbeats 40000000
namespace Go.Proofs.YtkhonmhnchdpkaaGreat
open Go.RowKit _root_.Go.Proofs.Tryz
section
variable {w0 w w1 w':World} {lab lab':Nat->Nat} {S J:List Nat} {i j n t k:Nat} {v:Value} {s s':Zq}
structure EP where
 (x a b r:Nat)
 (vp vt vd:Value)
 kt:Nat->Nat
 (vc gv:Nat->Value)
 ai:Nat->Int
 es:List DX
def Xs (k:Nat):Value:=.pointer (some ⟨k,0,none⟩)
def J6 (P:EP) (s:Zq):Array Value:=#[.int .i64 s.c0,.int .i64 s.c1,.int .i64 s.c2,.int .i64 s.c3,P.vp,.int .i64 0,.int .i64 1,.int .i64 2,.int .i64 3,.int .i64 (Z4 s.c1),.int .i64 (Zw s.c0 s.c1),Xs P.a,Xs P.r,P.vt,P.vd,.int .i64 s.steps]
def Qg (vc:Value) (begun:Nat) (gv:Value) (ai:Int):Array Value:=#[vc,.int .i64 begun,gv,.int .i64 ai]
def Di (w:World) (lab:Nat->Nat) (i:Nat) (gv:Value):Option Qw->Prop
 |none=>gv=.nilIface
 |some (.wr x)=>∃ q,gv=.iface 140 (Xs q.k)/\Zx w q x/\(x.part<=8->q.nx=Xe x.part)/\∀ n∈q.blocks,lab n=i
 |some (.rd x)=>∃ q,gv=.iface 142 (Xs q.k)/\Z9 w q x/\∀ n∈q.blocks,lab n=i
def Zq.goer (s:Zq) (t:Nat):Option Qw:=
 match (s.th t).cur with
 |none=>none
 |some i=>match s.txs[i]? with|some x=>x.g|none=>none
theorem Di.carry {g:Option Qw} (h:Di w lab i v g) (m:Ze S w w') (hs:Kb S w lab J) (hi:i∉J) (ha:Um w lab lab'):Di w' lab' i v g:=by
 match g,h with
 |none,h=>exact h
 |some (.wr x),⟨q,h1,h2,h3,h4⟩=>exact ⟨q,h1,h2.mod m (λ n hn=>hs.nin hi (h4 n hn) (h2.lt hn)),h3,λ n hn=>(ha n (h2.lt hn)).trans (h4 n hn)⟩
 |some (.rd x),⟨q,h1,h2,h4⟩=>exact ⟨q,h1,h2.mod m (λ n hn=>hs.nin hi (h4 n hn) (h2.lt hn)),λ n hn=>(ha n (h2.lt hn)).trans (h4 n hn)⟩
structure Yu (w0 w:World) (lab:Nat->Nat) (P:EP) (s:Zq):Prop where
 hx:w.heap[P.x]? =some (.cells (J6 P s) 79 (0,0))
 mem:Zi 137 w P.a P.b s.mem
 rnd:Xx w P.r s.c1
 prog:Ko w lab 6 P.vp s.progs
 trow:Vw w lab 4 83 1 ((List.range s.ths.length).map (λ t=>Xs (P.kt t))) s.ths.length P.vt
 thd:∀ t,t < s.ths.length->w.heap[P.kt t]? =some (.cells (Qg (P.vc t) (s.th t).begun (P.gv t) (P.ai t)) 87 (0,0))
 lt:∀ t,t < s.ths.length->lab (P.kt t)=10+t
 call:∀ t,t < s.ths.length->Kr w lab 6 (P.vc t) (s.th t).calls
 cur:∀ t i,t < s.ths.length->(s.th t).cur=some i->P.ai t=i
 go:∀ t,t < s.ths.length->Di w lab (30+t) (P.gv t) (s.goer t)
 deeds:Jr w lab 5 6 P.vd (s.txs.map (·.raw)) P.es
 n1:1<=s.ths.length
 n8:s.ths.length<=8
 nt:s.c1=s.ths.length
 lx:lab P.x=1
 la:lab P.a=2
 lb:lab P.b=2
 lr:lab P.r=3
 old:∀ n,n < w0.heap.size->lab n=0
 fr:Ze [] w0 w
structure Kept (w0 w':World) (lab':Nat->Nat) (P:EP) (s:Zq) (J:List Nat):Prop where
 hx:1∉J->w'.heap[P.x]? =some (.cells (J6 P s) 79 (0,0))
 mem:2∉J->Zi 137 w' P.a P.b s.mem
 rnd:3∉J->Xx w' P.r s.c1
 prog:Ko w' lab' 6 P.vp s.progs
 trow:Vw w' lab' 4 83 1 ((List.range s.ths.length).map (λ t=>Xs (P.kt t))) s.ths.length P.vt
 thd:∀ t,t < s.ths.length->10+t∉J->w'.heap[P.kt t]? =some (.cells (Qg (P.vc t) (s.th t).begun (P.gv t) (P.ai t)) 87 (0,0))
 lt:∀ t,t < s.ths.length->lab' (P.kt t)=10+t
 call:∀ t,t < s.ths.length->Kr w' lab' 6 (P.vc t) (s.th t).calls
 go:∀ t,t < s.ths.length->30+t∉J->Di w' lab' (30+t) (P.gv t) (s.goer t)
 deeds:5∉J->Jr w' lab' 5 6 P.vd (s.txs.map (·.raw)) P.es
 lx:lab' P.x=1
 la:lab' P.a=2
 lb:lab' P.b=2
 lr:lab' P.r=3
 old:∀ n,n < w0.heap.size->lab' n=0
 fr:Ze [] w0 w'
variable {P:EP}
theorem Yu.ge (h:Yu w0 w lab P s) (hn:lab n≠0):w0.heap.size<=n:=by
 by_cases hl:n < w0.heap.size
 ·exact absurd (h.old n hl) hn
 ·omega
theorem Yu.keep (h:Yu w0 w lab P s) (m:Ze S w w') (hs:Kb S w lab J) (h0:0∉J) (h4:4∉J) (h6:6∉J) (ha:Um w lab lab'):Kept w0 w' lab' P s J where
 hx:=λ hj=>m.at h.hx (hs.nin hj h.lx (lt_of_block h.hx))
 mem:=λ hj=>h.mem.mod m (hs.nin hj h.la h.mem.lta) (hs.nin hj h.lb h.mem.ltb)
 rnd:=λ hj=>h.rnd.mod m (hs.nin hj h.lr h.rnd.lt)
 prog:=h.prog.carry m hs h6 ha
 trow:=h.trow.carry m hs h4 ha
 thd:=λ t ht hj=>m.at (h.thd t ht) (hs.nin hj (h.lt t ht) (lt_of_block (h.thd t ht)))
 lt:=λ t ht=>(ha _ (lt_of_block (h.thd t ht))).trans (h.lt t ht)
 call:=λ t ht=>(h.call t ht).carry m hs h6 ha
 go:=λ t ht hj=>(h.go t ht).carry m hs hj ha
 deeds:=λ hj=>h.deeds.carry m hs hj h6 ha
 lx:=(ha _ (lt_of_block h.hx)).trans h.lx
 la:=(ha _ h.mem.lta).trans h.la
 lb:=(ha _ h.mem.ltb).trans h.lb
 lr:=(ha _ h.rnd.lt).trans h.lr
 old:=λ n hn=>(ha n (Nat.lt_of_lt_of_le hn h.fr.size)).trans (h.old n hn)
 fr:=h.fr.then m (λ n hn=>.inr (by
  by_cases hl:n < w.heap.size
  ·refine h.ge (λ e=>h0 ?_);rw [<-e];exact hs n hn hl
  ·exact Nat.le_trans h.fr.size (by omega)))
theorem Yu.quiet (h:Yu w0 w lab P s) (m:Ze [] w w') (ha:Um w lab lab'):Yu w0 w' lab' P s:=by
 have k:=h.keep (J:=[]) m (by intro n hn;simp at hn) (by simp) (by simp) (by simp) ha;exact ⟨k.hx (by simp),k.mem (by simp),k.rnd (by simp),k.prog,k.trow,λ t ht=>k.thd t ht (by simp),k.lt,k.call,h.cur,λ t ht=>k.go t ht (by simp),k.deeds (by simp),h.n1,h.n8,h.nt,k.lx,k.la,k.lb,k.lr,k.old,k.fr⟩
theorem Yu.row (h:Yu w0 w lab P s):∃ g cap,P.vt=.slice (some ⟨g,0,none⟩) s.ths.length cap/\lab g=4/\g < w.heap.size/\∀ t,t < s.ths.length->w.cell? ⟨g,t,none⟩=some (Xs (P.kt t)):=by
 obtain ⟨g,cap,e,_⟩:=Yd h.trow.row h.n1;have hr:=h.trow.row;rw [e] at hr;exact ⟨g,cap,e,h.trow.own g (by rw [e];rfl),Ys hr rfl,λ t ht=>(hr.cellAt t (by omega)).trans (by simp [ht])⟩
end
section
variable {w0 w w':World} {lab lab':Nat->Nat} {P:EP} {s s':Zq} {k n cap begun t:Nat} {a:Option Addr} {ai:Int}
theorem nat_beq (a b:Nat):((a:Int)==(b:Int))=(a==b):=by
 rw [Bool.eq_iff_iff];simp
 try omega
theorem fin_on {ti:TypeId} {u:Value} (h:w.heap[k]? =some (.cells (Qg (.slice a n cap) begun (.iface ti u) ai) 87 (0,0))):Calls Tryz.prog 43 #[Xs k] w λ e w'=>e=.returned (.bool false)/\Ze [] w w':=by
 have c2:w.cell? ⟨k,2,none⟩=some (.iface ti u):=Za h rfl;unfold Xs;go_enter func43,ntmps43;go_wp2;go_quiet (fail);go_wp2;go_ret;exact ⟨rfl,(Zr_ _ _).drewN _⟩
theorem Ny (h:w.heap[k]? =some (.cells (Qg (.slice a n cap) begun .nilIface ai) 87 (0,0))):Calls Tryz.prog 43 #[Xs k] w λ e w'=>e=.returned (.bool (begun==n))/\Ze [] w w':=by
 have c0:w.cell? ⟨k,0,none⟩=some (.slice a n cap):=Za h rfl;have c1:w.cell? ⟨k,1,none⟩=some (.int .i64 begun):=Za h rfl;have c2:w.cell? ⟨k,2,none⟩=some .nilIface:=Za h rfl;unfold Xs;go_enter func43,ntmps43;go_wp2;go_quiet (fail);go_wp2;go_ret;exact ⟨by rw [nat_beq];rfl,(Zr_ _ _).drewN _⟩
def Zq.Goes (s:Zq):Prop:=∀ t i,t < s.ths.length->(s.th t).cur=some i->∃ x g,s.txs[i]? =some x/\x.g=some g
theorem Zq.Goes.goer (h:s.Goes) (ht:t < s.ths.length):((s.th t).cur=none/\s.goer t=none)\/∃ i x g,(s.th t).cur=some i/\s.txs[i]? =some x/\x.g=some g/\s.goer t=some g:=by
 cases hc:(s.th t).cur with
 |none=>exact .inl ⟨rfl,by unfold Zq.goer;rw [hc]⟩
 |some i=>
  obtain ⟨x,g,h1,h2⟩:=h t i ht hc;exact .inr ⟨i,x,g,rfl,h1,h2,by unfold Zq.goer;rw [hc];simp [h1,h2]⟩
theorem Di.some_iface {i:Nat} {v:Value} {g:Qw} (h:Di w lab i v (some g)):∃ ti u,v=.iface ti u:=by
 cases g with
 |wr x=>obtain ⟨q,h,_⟩:=h;exact ⟨_,_,h⟩
 |rd x=>obtain ⟨q,h,_⟩:=h;exact ⟨_,_,h⟩
theorem fin_c (h:Yu w0 w lab P s) (hg:s.Goes) (ht:t < s.ths.length):Calls Tryz.prog 43 #[Xs (P.kt t)] w λ e w'=>e=.returned (.bool (s.th t).fin)/\Ze [] w w':=by
 have hk:=h.thd t ht;obtain ⟨vs,_,hr,_⟩:=h.call t ht;obtain ⟨a,cap,hv⟩:=Zo hr.row;rw [hv] at hk;have G:=h.go t ht;obtain ⟨hc,hgo⟩|⟨i,x,g,hc,_,_,hgo⟩:=hg.goer ht
 ·rw [hgo] at G;have G:P.gv t=.nilIface:=G;rw [G] at hk;refine (Ny hk).mono ?_;rintro e w1 ⟨rfl,m⟩;exact ⟨by unfold Gn.fin;rw [hc];rfl,m⟩
 ·rw [hgo] at G;obtain ⟨ti,u,e⟩:=G.some_iface;rw [e] at hk;refine (fin_on hk).mono ?_;rintro e w1 ⟨rfl,m⟩;exact ⟨by unfold Gn.fin;rw [hc];rfl,m⟩
end
section
variable {w0 w w':World} {lab lab':Nat->Nat} {P:EP} {s s':Zq} {k n cap begun t:Nat} {a:Option Addr} {ai:Int}
theorem over_all (h:∀ j,j < s.ths.length->(s.th j).fin=true):s.over=true:=by
 unfold Zq.over;rw [List.all_eq_true];intro x hx;obtain ⟨j,hj,rfl⟩:=List.mem_iff_getElem.1 hx;have:=h j hj;unfold Zq.th at this;simpa [List.getD_eq_getElem?_getD,hj] using this
theorem over_no {j:Nat} (hj:j < s.ths.length) (h:(s.th j).fin=false):s.over=false:=by
 unfold Zq.over;rw [List.all_eq_false];refine ⟨s.ths[j],List.getElem_mem hj,?_⟩;unfold Zq.th at h;simp [List.getD_eq_getElem?_getD,hj] at h;simp [h]
theorem over_c (h:Yu w0 w lab P s) (hg:s.Goes):Calls Tryz.prog 20 #[Xs P.x] w λ e w'=>e=.returned (.bool s.over)/\Ze [] w w':=by
 obtain ⟨g,cap,e,_,hgl,hc⟩:=h.row;have c13:w.cell? ⟨P.x,13,none⟩=some (.slice (some ⟨g,0,none⟩) s.ths.length cap):=by rw [<-e];exact Za h.hx rfl
 obtain ⟨nt,hnt⟩:∃ z,z=s.ths.length:=⟨_,rfl⟩;have HN:=Zh_ hnt;have hn8:nt<=8:=by have:=h.n8;omega
 rw [<-hnt] at c13 hc;have H:=Zh_ h;have HG:=Zh_ hg;have HY:=Zh_ (over_all (s:=s));have HO:=Zh_ (λ j=>over_no (s:=s) (j:=j));clear h hg e hnt;unfold Xs;go_enter func20,ntmps20;go_wp2_with fail
 go_loopw [10] (λ i wr=>∃ k:Nat,k<=nt/\i=.int .i64 k/\(∀ j,j < k->(s.th j).fin=true)/\Ze [] w wr) (λ i _=>nt - (intOf i).toNat)
 case atStart=>exact ⟨0,by omega,rfl,λ j hj=>absurd hj (by omega),Zr_ _ _⟩
 case round=>
  obtain ⟨k,hk,rfl,hall,m⟩:=hrel
  by_cases hlt:k < nt
  ·have c:=Zy m hgl (by simp) (hc k hlt);have d4:decide ((k:Int) < nt)=true:=decide_eq_true (by omega);have HM:=Zh_ m;have HA:=Zh_ hall;have C:=fin_c (H.out.quiet m Z1) HG.out (by rw [<-HN.out];exact hlt);unfold Xs at c C;clear m hall hc;go_wp2_with fail;refine C.mono ?_;rintro e w2 ⟨rfl,m2⟩;have M2:=HM.out.trans m2;cases hf:(s.th k).fin
   ·go_wp2;go_ret;exact ⟨by rw [HO.out k (by rw [<-HN.out];exact hlt) hf];rfl,M2⟩
   ·go_wp2;go_roundw
    case rel=>exact ⟨k+1,by omega,by go_num,λ j hj=>by
     by_cases hjk:j=k
     ·subst hjk;exact hf
     ·exact HA.out j (by omega),M2⟩
    case measure=>simp [intOf];omega
  ·have d4:decide ((k:Int) < nt)=false:=decide_eq_false (by omega);obtain rfl:k=nt:=by omega
   go_wp2;go_ret;exact ⟨by rw [HY.out (by rw [<-HN.out];exact hall)];rfl,m⟩
end
end Go.Proofs.YtkhonmhnchdpkaaGreat
