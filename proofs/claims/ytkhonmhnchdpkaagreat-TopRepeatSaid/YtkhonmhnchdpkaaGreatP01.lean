/- A part of the proof; no condition. -/
import Derived.Test.YtkhonmhnchdpkaaGreatP00
set_option maxRecDepth 100000
set_option maxHeartbeats 40000000
namespace Go.Proofs.YtkhonmhnchdpkaaGreat
open Go.RowKit _root_.Go.Proofs.Tryz
section
theorem Ze.grown {S:List Nat} {a b c:World} {row:Option Nat} (h:Ze S a b) (hg:b.grownBy c row) (hr:∀ k,row=some k->k∈S\/a.heap.size<=k):Ze S a c:=
 ⟨hg.os.trans h.os,hg.tape.trans h.tape,hg.output.trans h.output,Nat.le_trans h.size hg.size,
  λ i hi hs=>(hg.block i (Nat.lt_of_lt_of_le hi h.size) (λ e=>(hr i e.symm).elim hs (λ h'=>by omega))).trans (h.block i hi hs)⟩
theorem Yd {w:World} {base:Nat} {e:TypeId} {size n:Nat} {v:Value} {xs:List Value} (h:w.ownsRow base e size v n xs) (hn:0 < n):
  ∃ g cap,v=.slice (some ⟨g,0,none⟩) n cap/\base<=g:=by
 rcases h.2 with ⟨_,h0⟩|⟨g,cap,cur,hv,hb,_⟩
 ·omega
 ·exact ⟨g,cap,hv,hb⟩
theorem Zo {w:World} {base:Nat} {e:TypeId} {size n:Nat} {v:Value} {xs:List Value} (h:w.ownsRow base e size v n xs):
  ∃ a cap,v=.slice a n cap:=by
 rcases h.2 with ⟨hv,h0⟩|⟨g,cap,cur,hv,hb,_⟩
 ·exact ⟨none,0,by rw [hv,h0]⟩
 ·exact ⟨_,cap,hv⟩
theorem Pi {w:World} {g n:Nat} {e:TypeId} {cur:Array Value} (hg:w.heap[g]? =some (.cells cur e (0,0))) (hc:cur.size=n) (hn:n<=maxLen) {base:Nat} (hb:base<=g):
  w.ownsRow base e 1 (.slice (some ⟨g,0,none⟩) n n) n cur.toList:=
 ⟨by simpa using hc,.inr ⟨g,n,cur,rfl,hb,hg,Nat.le_refl _,hn,by simpa using hc,by rw [List.take_of_length_le (by simp [hc])]⟩⟩
theorem info3:(Tryz.prog.info? 3).map (λ i=>(i.zero,i.size,i.bytes))=some (some (.int .i64 0),1,8):=by kernel_rfl
end
section
variable {w w':World}
def Dh (w:World) (v:Value) (l:List Int):Prop:=∃ a cap,v=.slice a l.length cap/\(l=[]\/∃ b off,a=some ⟨b,off,none⟩/\b < w.heap.size/\∀ i,i < l.length->w.cell? ⟨b,off+i,none⟩=some (.int .i64 (l.getD i 0)))
theorem Zy {S:List Nat} {a:Addr} {v:Value} (m:Ze S w w') (hb:a.block < w.heap.size) (hS:a.block∉S) (h:w.cell? a=some v):w'.cell? a=some v:=
 (World.cell?_of_block (w:=w) (a:=a) (m.block a.block hb hS)).trans h
theorem Dh.mod {v:Value} {l:List Int} (h:Dh w v l) (m:Ze [] w w'):Dh w' v l:=by
 obtain ⟨a,cap,rfl,h⟩:=h;refine ⟨a,cap,rfl,h.imp id ?_⟩;rintro ⟨b,off,rfl,hb,hc⟩;exact ⟨b,off,rfl,Nat.lt_of_lt_of_le hb m.size,λ i hi=>Zy m hb (by simp) (hc i hi)⟩
def Vt (n t:Int):Int:=((t.tmod n)+n).tmod n
theorem Ps {n:Int} (h:1<=n) (t:Int):0<=Vt n t/\Vt n t < n:=by
 unfold Vt;have a:=Int.lt_tmod_of_pos t (show 0 < n by omega);have b:=Int.tmod_lt_of_pos (t.tmod n+n) (show 0 < n by omega);exact ⟨Int.tmod_nonneg _ (by omega),b⟩
theorem fold_eq {n:Int} (h:1<=n) (t:Int):t.tmod n % n=Vt n t:=by
 unfold Vt;have a:=Int.lt_tmod_of_pos t (show 0 < n by omega);have e:(t.tmod n+n).tmod n=(t.tmod n+n) % n:=Int.tmod_eq_emod_of_nonneg (by omega);rw [e,Int.add_emod_right]
theorem Wk (n:Nat) (hn:n<=65536) (w:World):
  (Instr.makeSlice 34 (.int .i64 n) (.int .i64 n)).run Tryz.prog w=.ok (.slice (some ⟨w.heap.size,0,none⟩) n n) (w.alloc (.cells (madeCells #[.int .i64 0] n) 3)):=by
 obtain ⟨i0,hi,hz0,hz1,hz2⟩:=info_parts info3;have h:=run_make (P:=Tryz.prog) w 34 3 i0 (.int .i64 0) underlying34 hi hz0 .i64 .i64 n n (by omega) (by omega) (by rw [hz2];omega) (by omega);rw [hz1] at h;simpa only [Value.cells,Int.toNat_natCast,Nat.mul_one] using h
def Tz (w:World) (g n k:Nat) (f:Nat->Int):Prop:=∃ c:Array Value,c.size=n/\(∀ j,j < k->c[j]? =some (.int .i64 (f j)))/\w.heap[g]? =some (.cells c 3 (0,0))
theorem Tz.set {g n k:Nat} {f:Nat->Int} (h:Tz w g n k f) (hk:k < n) {v:Int} (hv:v=f k):Tz (w.setCell ⟨g,k,none⟩ (.int .i64 v)) g n (k+1) f:=by
 obtain ⟨c,hc,hj,hb⟩:=h;refine ⟨c.setIfInBounds k (.int .i64 v),by simpa using hc,λ j hjk=>?_,Zd _ hb⟩;rw [Array.getElem?_setIfInBounds]
 by_cases e:k=j
 ·subst e;simp [hc,hk,hv]
 ·rw [if_neg e];exact hj j (by omega)
theorem Tz.free {g n k:Nat} {f:Nat->Int} (h:Tz w g n k f) (j:Nat):w.frozen? ⟨g,j,none⟩=false:=by
 obtain ⟨c,hc,_,hb⟩:=h;exact Zb hb
theorem Tz.has {g n k:Nat} {f:Nat->Int} (h:Tz w g n k f) {j:Nat} (hj:j < n):∃ v,w.cell? ⟨g,j,none⟩=some v:=by
 obtain ⟨c,hc,_,hb⟩:=h;exact ⟨c[j],Za hb (Array.getElem?_eq_getElem (by omega))⟩
theorem fold_c {v:Value} {l:List Int} {n:Int} (h:Dh w v l) (hl:l.length<=65536) (h0:1<=n) (h8:n<=8):Calls Tryz.prog 23 #[v,.int .i64 n] w λ e w'=>∃ cap,e=.returned (.tuple #[.slice (some ⟨w.heap.size,0,none⟩) l.length cap,.int .i64 0])/\(∀ i,i < l.length->w'.cell? ⟨w.heap.size,i,none⟩=some (.int .i64 (Vt n (l.getD i 0))))/\w.heap.size < w'.heap.size/\Ze [] w w':=by
 obtain ⟨len,hlen⟩:∃ m,m=l.length:=⟨_,rfl⟩;have hmk:=Wk len (by omega);have d1:decide (n < 1)=false:=decide_eq_false (by omega);have d2:decide (8 < n)=false:=decide_eq_false (by omega);have d3:decide ((65536:Int) < len)=false:=decide_eq_false (by omega);have dn:n≠0:=by omega
 have h':=h;obtain ⟨a,cap,rfl,hc⟩:=h';have HI:=Zh_ h;clear h;have HL:=Zh_ hlen;have hl':len<=65536:=by omega
 rw [<-hlen] at hc;clear hlen hl;rw [<-HL.out];go_enter func23,ntmps23;go_wp2_with fail
 go_loopw [23] (λ i wr=>∃ k:Nat,k<=len/\i=.int .i64 k/\Tz wr w.heap.size len k (λ j=>Vt n (l.getD j 0))/\Ze [] w wr) (λ i _=>len - (intOf i).toNat)
 case atStart=>exact ⟨0,by omega,rfl,⟨_,by simp [madeCells],λ j hj=>absurd hj (by omega),Zc _ _⟩,(Zr_ _ _).alloc _⟩
 case round=>
  obtain ⟨k,hk,rfl,hU,m⟩:=hrel
  by_cases hlt:k < len
  ·obtain hc|⟨b,off,rfl,hb,hc⟩:=hc
   ·have:=HL.out;subst hc;simp at this;omega
   have c:=Zy m hb (by simp) (hc k hlt);have fz:=hU.free k;obtain ⟨v0,hv0⟩:=hU.has hlt;have d4:decide ((k:Int) < len)=true:=decide_eq_true (by omega);obtain ⟨t,ht⟩:∃ t,t=l.getD k 0:=⟨_,rfl⟩;rw [<-ht] at c;have e1:=(Int.tmod_lt_of_pos t (show 0 < n by omega));have e2:=(Int.lt_tmod_of_pos t (show 0 < n by omega));have e3:wrap64 (t.tmod n)=t.tmod n:=IntWalk.wrap64_in _ ⟨by omega,by omega⟩;have e4:wrap64 (t.tmod n+n)=t.tmod n+n:=IntWalk.wrap64_in _ ⟨by omega,by omega⟩;have e5:wrap64 ((t.tmod n+n).tmod n)=Vt n t:=by have:=Ps h0 t;exact IntWalk.wrap64_in _ ⟨by unfold Vt at this;omega,by unfold Vt at this;omega⟩
   have HU:=Zh_ (hU.set hlt (v:=Vt n t) (by rw [ht]));have HM:=Zh_ (m.setCell ⟨w.heap.size,k,none⟩ (.int .i64 (Vt n t)) (.inr (Nat.le_refl _)));have e6:t.tmod n % n=Vt n t:=fold_eq h0 t;have E6:=Zh_ e6;clear hU m hc ht e3 e4 e5 e6;go_wp2;rw [E6.out];go_roundw
   case rel=>exact ⟨k+1,by omega,by go_num,HU.out,HM.out⟩
   case measure=>simp [intOf];omega
  ·have d4:decide ((k:Int) < len)=false:=decide_eq_false (by omega);obtain rfl:k=len:=by omega
   go_wp2;go_ret2;obtain ⟨c,hc,hj,hb⟩:=hU;exact ⟨_,rfl,λ i hi=>Za hb (hj i hi),lt_of_block hb,m⟩
end
end Go.Proofs.YtkhonmhnchdpkaaGreat
