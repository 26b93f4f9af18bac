/- A part of the proof; no condition. -/
import Derived.Test.YtkhonmhnchdpkaaGreatS05
import Derived.Deep.RegionLaw
import Derived.Deep.AppendLies
set_option maxRecDepth 100000
set_option maxHeartbeats 40000000
namespace Go.Proofs.YtkhonmhnchdpkaaGreat
open Go.RowKit _root_.Go.Proofs.Tryz
section
attribute [local go_sem] Zi
variable {w w':World} {p p':MP} {s s':Zl}
theorem takes_bd (k:Int) (h1:1≤k) (h2:k≤20):0≤Qp k∧Qp k≤2∧0≤Jh k∧Jh k≤2:=by
 rcases (show k=1∨k=2∨k=3∨k=4∨k=5∨k=6∨k=7∨k=8∨k=9∨k=10∨k=11∨k=12∨k=13∨k=14∨k=15∨k=16∨k=17∨k=18∨k=19∨k=20 by omega) with rfl|rfl|rfl|rfl|rfl|rfl|rfl|rfl|rfl|rfl|rfl|rfl|rfl|rfl|rfl|rfl|rfl|rfl|rfl|rfl <;> decide
def ReadyP (b:Bool) (w:World) (e:Ending) (w':World):Prop:=e=(if b=true then .returned (.tuple #[]) else .panicked [{v:=.iface 235 (.int .i64 82),recovered:=false}])∧Ze [] w w'
theorem ready_c (h:Zg w p s) (op n:Int) (x:Nat) (h1:1≤op) (h2:op≤20) (h5:op=5→0≤n∧n≤63) (hn:s.nums.length≤64) (_:s.calls.length≤16):Calls Tryz.prog 142 #[.pointer (some ⟨p.mb,0,none⟩),.agg #[.int .i64 op,.int .i64 n,.float .f64 x]] w (ReadyP (s.readyB ⟨op,n,x⟩) w):=by
 obtain ⟨t0,t1,l0,l1⟩:=takes_bd op h1 h2
 have HE:=fun w=>eff_c op h1 h2 w
 have HL:=fun (w':World) (m:Ze [] w w')=>stk_lenF (h.nums.mod m (by simp) (by simp))
 have HK:=fun (w':World) (m:Ze [] w w')=>stk_lenI (h.calls.mod m (by simp) (by simp))
 have hr:s.readyB ⟨op,n,x⟩=!((decide ((s.nums.length:Int) < (if op=5 then n+1 else Qp op)) || decide (64 < (s.nums.length:Int) - Qp op+Jh op)) || (op==14&&((s.calls.length:Int)==16))):=rfl
 rw [hr]
 clear hr
 generalize Qp op=t at *
 generalize Jh op=l at *
 obtain ⟨N,hN⟩:∃ N:Int,N=s.nums.length:=⟨_,rfl⟩
 obtain ⟨K,hK⟩:∃ K:Int,K=s.calls.length:=⟨_,rfl⟩
 rw [←hN,←hK]
 rw [←hN] at HL
 rw [←hK] at HK
 have N0:0≤N:=by omega
 have N1:N≤64:=by omega
 have w1:IntKind.i64.wrap (N - t)=N - t:=IntWalk.i64_in _ (by omega)
 have w2:IntKind.i64.wrap (N - t+l)=N - t+l:=IntWalk.i64_in _ (by omega)
 have hlt:=lt_of_block h.hd
 have r23:=fun (w':World) (m:Ze [] w w')=>((h.mod m (by simp)).cell 23 (u:=.pointer (some ⟨p.nb,0,none⟩)) rfl).1
 have r24:=fun (w':World) (m:Ze [] w w')=>((h.mod m (by simp)).cell 24 (u:=.pointer (some ⟨p.kb,0,none⟩)) rfl).1
 clear h hN hK t0 t1 l0 l1 N0 N1
 by_cases e5:op=5
 ·subst e5
  rw [if_pos rfl]
  have w0:IntKind.i64.wrap (n+1)=n+1:=IntWalk.i64_in _ (by have:=h5 rfl;omega)
  clear h5 h1 h2
  cases d1:decide (N < n+1)
  ·cases d2:decide (64 < N - t+l)
   ·skip
    go_enter func142,ntmps142
    go_wp2_with fail
    refine (HE _).mono ?_;rintro e w3 ⟨rfl,D1⟩
    have D:Ze [] w w3:=((Zr_ _ _).alloc _).trans D1
    have q0:w3.cell? ⟨w.heap.size,0,none⟩=some (.int .i64 5):=Za (D1.at (Zc _ _) (by simp)) rfl
    have q1:w3.cell? ⟨w.heap.size,1,none⟩=some (.int .i64 n):=Za (D1.at (Zc _ _) (by simp)) rfl
    have q23:=r23 w3 D
    have q24:=r24 w3 D
    clear D1
    go_wp2_with fail
    refine (HL _ D).mono ?_;rintro e w4 ⟨rfl,hw4⟩
    have hw4':=hw4.symm
    subst hw4'
    go_wp2
    go_end0
    exact ⟨rfl,D⟩
   ·skip
    go_enter func142,ntmps142
    go_wp2_with fail
    refine (HE _).mono ?_;rintro e w3 ⟨rfl,D1⟩
    have D:Ze [] w w3:=((Zr_ _ _).alloc _).trans D1
    have q0:w3.cell? ⟨w.heap.size,0,none⟩=some (.int .i64 5):=Za (D1.at (Zc _ _) (by simp)) rfl
    have q1:w3.cell? ⟨w.heap.size,1,none⟩=some (.int .i64 n):=Za (D1.at (Zc _ _) (by simp)) rfl
    have q23:=r23 w3 D
    have q24:=r24 w3 D
    clear D1
    go_wp2_with fail
    refine (HL _ D).mono ?_;rintro e w4 ⟨rfl,hw4⟩
    have hw4':=hw4.symm
    subst hw4'
    go_wp2_with fail
    refine (Ug 82 (by decide) _).mono ?_;rintro e w4 ⟨rfl,hw4⟩
    have hw4':=hw4.symm
    subst hw4'
    go_wp2
    exact ⟨rfl,rfl,D⟩
  ·skip
   go_enter func142,ntmps142
   go_wp2_with fail
   refine (HE _).mono ?_;rintro e w3 ⟨rfl,D1⟩
   have D:Ze [] w w3:=((Zr_ _ _).alloc _).trans D1
   have q0:w3.cell? ⟨w.heap.size,0,none⟩=some (.int .i64 5):=Za (D1.at (Zc _ _) (by simp)) rfl
   have q1:w3.cell? ⟨w.heap.size,1,none⟩=some (.int .i64 n):=Za (D1.at (Zc _ _) (by simp)) rfl
   have q23:=r23 w3 D
   have q24:=r24 w3 D
   clear D1
   go_wp2_with fail
   refine (HL _ D).mono ?_;rintro e w4 ⟨rfl,hw4⟩
   have hw4':=hw4.symm
   subst hw4'
   go_wp2_with fail
   refine (Ug 82 (by decide) _).mono ?_;rintro e w4 ⟨rfl,hw4⟩
   have hw4':=hw4.symm
   subst hw4'
   go_wp2
   exact ⟨rfl,rfl,D⟩
 ·rw [if_neg e5]
  have b5:(op==5)=false:=by simp [e5]
  clear h5 h1 h2 e5
  cases d1:decide (N < t)
  ·cases d2:decide (64 < N - t+l)
   ·cases d3:(op==14)
    ·skip
     go_enter func142,ntmps142
     go_wp2_with fail
     refine (HE _).mono ?_;rintro e w3 ⟨rfl,D1⟩
     have D:Ze [] w w3:=((Zr_ _ _).alloc _).trans D1
     have q0:w3.cell? ⟨w.heap.size,0,none⟩=some (.int .i64 op):=Za (D1.at (Zc _ _) (by simp)) rfl
     have q1:w3.cell? ⟨w.heap.size,1,none⟩=some (.int .i64 n):=Za (D1.at (Zc _ _) (by simp)) rfl
     have q23:=r23 w3 D
     have q24:=r24 w3 D
     clear D1
     go_wp2_with fail
     refine (HL _ D).mono ?_;rintro e w4 ⟨rfl,hw4⟩
     have hw4':=hw4.symm
     subst hw4'
     go_wp2
     go_end0
     exact ⟨rfl,D⟩
    ·cases d4:(K==16)
     ·skip
      go_enter func142,ntmps142
      go_wp2_with fail
      refine (HE _).mono ?_;rintro e w3 ⟨rfl,D1⟩
      have D:Ze [] w w3:=((Zr_ _ _).alloc _).trans D1
      have q0:w3.cell? ⟨w.heap.size,0,none⟩=some (.int .i64 op):=Za (D1.at (Zc _ _) (by simp)) rfl
      have q1:w3.cell? ⟨w.heap.size,1,none⟩=some (.int .i64 n):=Za (D1.at (Zc _ _) (by simp)) rfl
      have q23:=r23 w3 D
      have q24:=r24 w3 D
      clear D1
      go_wp2_with fail
      refine (HL _ D).mono ?_;rintro e w4 ⟨rfl,hw4⟩
      have hw4':=hw4.symm
      subst hw4'
      go_wp2_with fail
      refine (HK _ D).mono ?_;rintro e w4 ⟨rfl,hw4⟩
      have hw4':=hw4.symm
      subst hw4'
      go_wp2
      go_end0
      exact ⟨rfl,D⟩
     ·skip
      go_enter func142,ntmps142
      go_wp2_with fail
      refine (HE _).mono ?_;rintro e w3 ⟨rfl,D1⟩
      have D:Ze [] w w3:=((Zr_ _ _).alloc _).trans D1
      have q0:w3.cell? ⟨w.heap.size,0,none⟩=some (.int .i64 op):=Za (D1.at (Zc _ _) (by simp)) rfl
      have q1:w3.cell? ⟨w.heap.size,1,none⟩=some (.int .i64 n):=Za (D1.at (Zc _ _) (by simp)) rfl
      have q23:=r23 w3 D
      have q24:=r24 w3 D
      clear D1
      go_wp2_with fail
      refine (HL _ D).mono ?_;rintro e w4 ⟨rfl,hw4⟩
      have hw4':=hw4.symm
      subst hw4'
      go_wp2_with fail
      refine (HK _ D).mono ?_;rintro e w4 ⟨rfl,hw4⟩
      have hw4':=hw4.symm
      subst hw4'
      go_wp2_with fail
      refine (Ug 82 (by decide) _).mono ?_;rintro e w4 ⟨rfl,hw4⟩
      have hw4':=hw4.symm
      subst hw4'
      go_wp2
      exact ⟨rfl,rfl,D⟩
   ·skip
    go_enter func142,ntmps142
    go_wp2_with fail
    refine (HE _).mono ?_;rintro e w3 ⟨rfl,D1⟩
    have D:Ze [] w w3:=((Zr_ _ _).alloc _).trans D1
    have q0:w3.cell? ⟨w.heap.size,0,none⟩=some (.int .i64 op):=Za (D1.at (Zc _ _) (by simp)) rfl
    have q1:w3.cell? ⟨w.heap.size,1,none⟩=some (.int .i64 n):=Za (D1.at (Zc _ _) (by simp)) rfl
    have q23:=r23 w3 D
    have q24:=r24 w3 D
    clear D1
    go_wp2_with fail
    refine (HL _ D).mono ?_;rintro e w4 ⟨rfl,hw4⟩
    have hw4':=hw4.symm
    subst hw4'
    go_wp2_with fail
    refine (Ug 82 (by decide) _).mono ?_;rintro e w4 ⟨rfl,hw4⟩
    have hw4':=hw4.symm
    subst hw4'
    go_wp2
    exact ⟨rfl,rfl,D⟩
  ·skip
   go_enter func142,ntmps142
   go_wp2_with fail
   refine (HE _).mono ?_;rintro e w3 ⟨rfl,D1⟩
   have D:Ze [] w w3:=((Zr_ _ _).alloc _).trans D1
   have q0:w3.cell? ⟨w.heap.size,0,none⟩=some (.int .i64 op):=Za (D1.at (Zc _ _) (by simp)) rfl
   have q1:w3.cell? ⟨w.heap.size,1,none⟩=some (.int .i64 n):=Za (D1.at (Zc _ _) (by simp)) rfl
   have q23:=r23 w3 D
   have q24:=r24 w3 D
   clear D1
   go_wp2_with fail
   refine (HL _ D).mono ?_;rintro e w4 ⟨rfl,hw4⟩
   have hw4':=hw4.symm
   subst hw4'
   go_wp2_with fail
   refine (Ug 82 (by decide) _).mono ?_;rintro e w4 ⟨rfl,hw4⟩
   have hw4':=hw4.symm
   subst hw4'
   go_wp2
   exact ⟨rfl,rfl,D⟩
end
section
attribute [local go_sem] Zi
variable {w w' w0:World} {p p':MP} {s s':Zl}
theorem Y4 (D:Zk w0 p s w) (hl:s.nums.length < 64) (x:Nat):Calls Tryz.prog 145 #[.pointer (some ⟨p.mb,0,none⟩),.float .f64 x] w fun e w'=>e=.returned (.tuple #[])∧Zk w0 p (s.push x) w':=by
 obtain ⟨q,h,F⟩:=D
 rw [←F.mb]
 refine (mpush_c h hl x).mono ?_;rintro e w1 ⟨rfl,r,h1,h2⟩
 exact ⟨rfl,r,h1,F.trans h2⟩
theorem Xn (D:Zk w0 p s w) (hl:0 < s.nums.length) (hb:s.nums.length≤64):Calls Tryz.prog 164 #[.pointer (some ⟨p.mb,0,none⟩)] w fun e w'=>e=.returned (.float .f64 s.top)∧Zk w0 p s.pop w':=by
 obtain ⟨q,h,F⟩:=D
 rw [←F.mb]
 refine (mpop_c h hl hb).mono ?_;rintro e w1 ⟨rfl,r,h1,h2⟩
 exact ⟨rfl,r,h1,F.trans h2⟩
theorem Fv (D:Zk w0 p s w) (a b c:Int):Calls Tryz.prog 140 #[.pointer (some ⟨p.mb,0,none⟩),.agg #[.int .i64 a,.int .i64 b,.int .i64 c]] w fun e w'=>e=.returned (Zy 4).val∧Zk w0 p (s.ends a b c) w':=by
 obtain ⟨q,h,F⟩:=D
 rw [←F.mb]
 refine (mends_c h a b c).mono ?_;rintro e w1 ⟨rfl,r,h1,h2⟩
 exact ⟨rfl,r,h1,F.trans h2⟩
theorem N8 (D:Zk w0 p s w) (hl:0 < s.nums.length) (hb:s.nums.length≤64) (hi:Vg s.top s.c0=none):Calls Tryz.prog 173 #[.pointer (some ⟨p.mb,0,none⟩)] w fun e w'=>e=.panicked [{v:=.iface 235 (.int .i64 50),recovered:=false}]∧Zk w0 p s w':=by
 obtain ⟨q,h,F⟩:=D
 rw [←F.mb]
 refine (L7 h hl hb).mono ?_;rintro e w1 ⟨h1,n,rfl⟩
 rw [hi] at h1
 exact ⟨h1,Zk.drewN' (⟨q,h,F⟩:Zk w0 p s w) n⟩
theorem U6 (D:Zk w0 p s w) (hl:0 < s.nums.length) (hb:s.nums.length≤64) {c:Int} (hi:Vg s.top s.c0=some c):Calls Tryz.prog 173 #[.pointer (some ⟨p.mb,0,none⟩)] w fun e w'=>e=.returned (.int .i64 c)∧Zk w0 p s w':=by
 obtain ⟨q,h,F⟩:=D
 rw [←F.mb]
 refine (L7 h hl hb).mono ?_;rintro e w1 ⟨h1,n,rfl⟩
 rw [hi] at h1
 exact ⟨h1,Zk.drewN' (⟨q,h,F⟩:Zk w0 p s w) n⟩
theorem Ba (w:World) (x y:Value) (t:TypeId):∀ j u,[x,y][j]? =some u→(w.alloc (.cells #[x,y] t)).cell? ((⟨w.heap.size,0,none⟩:Addr).add j)=some u:=by
 intro j u h
 have e:((⟨w.heap.size,0,none⟩:Addr).add j)=⟨w.heap.size,j,none⟩:=by unfold Addr.add;split <;> simp_all
 rw [e]
 exact Za (Zc _ _) (by rw [←h];rcases j with _|_|j <;> simp)
def ExP (w:World) (p:MP) (s:Zl) (r:Except Int (Zl×Xg)) (e:Ending) (w':World):Prop:=
 match r with
 |.ok r=>e=.returned r.2.val∧Zk w p r.1 w'
 |.error c=>e=.panicked [{v:=.iface 235 (.int .i64 c),recovered:=false}]∧Zk w p s w'
theorem readE_no (hi:Vg s.top s.c0=none):s.readE=.error 50:=by unfold Zl.readE;rw [hi]
theorem Sw {c:Int} (hi:Vg s.top s.c0=some c) (hk:s.buf.known c=true):s.readE=.ok ({(s.pop.push (s.buf.val c)) with reads:=s.reads++[(c,s.buf.val c)]},⟨2,c,s.buf.val c,false⟩):=by unfold Zl.readE;rw [hi];exact if_pos hk
theorem T1 {c:Int} (hi:Vg s.top s.c0=some c) (hk:s.buf.known c=false):s.readE=.ok ({s.pop with waits:=true,cell:=c},⟨1,c,0,false⟩):=by unfold Zl.readE;rw [hi];exact if_neg (by simp [hk])
theorem Zk.res {w1:World} (D:Zk w0 p s w1) {k:Nat} {x:Obj} (hk:w0.heap[k]? =some x) (hn:k∉p.blocks):w1.heap[k]? =some x:=by
 obtain ⟨q,h,F⟩:=D
 exact F.md.at hk hn
theorem Zg.new (h:Zg w p s):w.heap.size∉p.blocks:=fun hm=>by have:=h.lt hm;omega
theorem Zk.pre {w1:World} (D:Zk w1 p s w') (m:Ze [] w w1):Zk w p s w':=by
 obtain ⟨q,h,F⟩:=D
 exact ⟨q,h,(Hb.fresh m).trans F⟩
theorem Zk.fin {w3 w4:World} {o:Obj} {s0:Zl} (D:Zk (w.alloc o) p s w3) (h:Zg w p s0) (m:Ze [w.heap.size] w3 w4):Zk w p s w4:=by
 obtain ⟨q,hq,F⟩:=D
 have hn:w.heap.size∉q.blocks:=fun hm=>by
  rcases F.gr _ hm with h1|h1
  ·exact h.new h1
  ·simp at h1;omega
 have F0:=(Hb.fresh (p:=p) ((Zr_ [] w).alloc o)).trans F
 exact ⟨q,hq.mod m (by simp;intro k hk e;exact hn (e ▸ hk)),⟨F0.md.then m (by simp),F0.gr,F0.mb⟩⟩
def Ya:Obj:=.cells #[.int .i64 0,.int .i64 0,.float .f64 0,.bool false] 152
theorem read_no (h:Zg w p s) (hl:0 < s.nums.length) (hb:s.nums.length≤64) (hi:Vg s.top s.c0=none):Calls Tryz.prog 161 #[.pointer (some ⟨p.mb,0,none⟩)] w (ExP w p s s.readE):=by
 rw [readE_no hi]
 have D0:Zk (w.alloc Ya) p s (w.alloc Ya):=.same (h.alloc _)
 go_enter func161,ntmps161
 go_wp2_with fail
 refine (N8 D0 hl hb hi).mono ?_;rintro e w1 ⟨rfl,D1⟩
 go_wp2
 exact ⟨rfl,rfl,D1.pre ((Zr_ _ _).alloc _)⟩
theorem Sv (h:Zg w p s) (hl:0 < s.nums.length) (hb:s.nums.length≤64) {c:Int} (hi:Vg s.top s.c0=some c) (hk:s.buf.known c=false) (hcw:(Lit.int .i64 c).wf=true):Calls Tryz.prog 161 #[.pointer (some ⟨p.mb,0,none⟩)] w (ExP w p s s.readE):=by
 rw [T1 hi hk]
 have D0:Zk (w.alloc Ya) p s (w.alloc Ya):=.same (h.alloc _)
 have hkn:=Zh_ h.new
 have hlt:=lt_of_block h.hd
 go_enter func161,ntmps161
 go_wp2_with fail
 refine (U6 D0 hl hb hi).mono ?_;rintro e w1 ⟨rfl,D1⟩
 go_wp2_with fail
 refine (Xn D1 hl hb).mono ?_;rintro e w2 ⟨rfl,D2⟩
 have D2':=D2
 obtain ⟨q,hq,F⟩:=D2'
 have r34:w2.cell? ⟨p.mb,34,none⟩=some (.pointer (some ⟨q.bb,0,none⟩)):=by rw [←F.mb];exact (hq.cell 34 (u:=.pointer (some ⟨q.bb,0,none⟩)) rfl).1
 go_wp2_with fail
 refine (Rm hq.buf c hcw).mono ?_;rintro e w3 ⟨rfl,n,rfl⟩
 have D3:=D2.drewN' n
 clear D2 D1 D0 r34 hq F
 have ek:s.pop.buf.known c=false:=hk
 rw [ek]
 generalize w2.drewN n=w3 at *
 have r27:=(D3.cell 27 (u:=.bool s.pop.waits) (fun _=>rfl)).1
 have f27:=(D3.cell 27 (u:=.bool s.pop.waits) (fun _=>rfl)).2
 have r28:=(D3.cell 28 (u:=.int .i64 s.pop.cell) (fun _=>rfl)).1
 have f28:=(D3.cell 28 (u:=.int .i64 s.pop.cell) (fun _=>rfl)).2
 have RB:=D3.res (Zc w Ya) hkn.out
 have HRB:=Zh_ RB
 have g0:w3.cell? ⟨w.heap.size,0,none⟩=some (.int .i64 0):=Za RB rfl
 have z0:w3.frozen? ⟨w.heap.size,0,none⟩=false:=Zb RB
 have g1:w3.cell? ⟨w.heap.size,1,none⟩=some (.int .i64 0):=Za RB rfl
 have z1:w3.frozen? ⟨w.heap.size,1,none⟩=false:=Zb RB
 have g2:w3.cell? ⟨w.heap.size,2,none⟩=some (.float .f64 0):=Za RB rfl
 have z2:w3.frozen? ⟨w.heap.size,2,none⟩=false:=Zb RB
 have g3:w3.cell? ⟨w.heap.size,3,none⟩=some (.bool false):=Za RB rfl
 have z3:w3.frozen? ⟨w.heap.size,3,none⟩=false:=Zb RB
 clear RB
 have HD:=Zh_ D3
 have HH:=Zh_ h
 have hne:w.heap.size≠p.mb:=by omega
 clear D3 h hlt
 go_wp2
 have RB:=Zd (i:=3) (.bool (false)) (Zd (i:=2) (.float .f64 (0)) (Zd (i:=1) (.int .i64 c) (Zd (i:=0) (.int .i64 1) (Zq (i:=28) (.int .i64 c) (Zq (i:=27) (.bool true) HRB.out hne) hne))))
 refine bodyPost_ret (v:=(⟨1,c,0,false⟩:Xg).val) (results_cell_row (P:=Tryz.prog) (fn:=Tryz.f161) (p:=2) (ty:=152) rfl _ _ w.heap.size 152 _ (0,0) _ rfl RB underlying152 rfl (by kernel_rfl)) rfl ⟨rfl,?_⟩
 have D5:=(HD.out.set1 27 (.bool true) {s.pop with waits:=true} (fun _=>rfl) rfl rfl rfl rfl rfl rfl).set1 28 (.int .i64 c) {s.pop with waits:=true,cell:=c} (fun _=>rfl) rfl rfl rfl rfl rfl rfl
 exact D5.fin HH.out (((((Zr_ _ _).setCell _ _ (.inl (by simp))).setCell _ _ (.inl (by simp))).setCell _ _ (.inl (by simp))).setCell _ _ (.inl (by simp)))
theorem read_own (h:Zg w p s) (hl:0 < s.nums.length) (hb:s.nums.length≤64) {c:Int} (hi:Vg s.top s.c0=some c) (hk:s.buf.known c=true) (hcw:(Lit.int .i64 c).wf=true) (hr:s.reads.length≤4096):Calls Tryz.prog 161 #[.pointer (some ⟨p.mb,0,none⟩)] w (ExP w p s s.readE):=by
 rw [Sw hi hk]
 have D0:Zk (w.alloc Ya) p s (w.alloc Ya):=.same (h.alloc _)
 have hkn:=Zh_ h.new
 have hlt:=lt_of_block h.hd
 go_enter func161,ntmps161
 go_wp2_with fail
 refine (U6 D0 hl hb hi).mono ?_;rintro e w1 ⟨rfl,D1⟩
 go_wp2_with fail
 refine (Xn D1 hl hb).mono ?_;rintro e w2 ⟨rfl,D2⟩
 have D2':=D2
 obtain ⟨q,hq,F⟩:=D2'
 have r34:w2.cell? ⟨p.mb,34,none⟩=some (.pointer (some ⟨q.bb,0,none⟩)):=by rw [←F.mb];exact (hq.cell 34 (u:=.pointer (some ⟨q.bb,0,none⟩)) rfl).1
 go_wp2_with fail
 refine (Rm hq.buf c hcw).mono ?_;rintro e w3 ⟨rfl,n,rfl⟩
 have D3:=D2.drewN' n
 clear D2 D1 D0 r34 hq F
 have ek:s.pop.buf.known c=true:=hk
 have ev:s.pop.buf.val c=s.buf.val c:=rfl
 rw [ek,ev]
 generalize w2.drewN n=w3 at *
 have HH:=Zh_ h
 clear h
 go_wp2_with fail
 refine (Y4 D3 (by simp [Zl.pop];omega) (s.buf.val c)).mono ?_;rintro e w4 ⟨rfl,D4⟩
 clear D3
 have RB4:=D4.res (Zc w Ya) hkn.out
 have hsz:w.heap.size+1≤w4.heap.size:=by have:=D4.size;simpa using this
 obtain ⟨q,hq,F⟩:=D4
 have hnq:w.heap.size∉q.blocks:=fun hm=>by
  rcases F.gr _ hm with h1|h1
  ·exact hkn.out h1
  ·simp at h1;omega
 obtain ⟨av,cv,hv⟩:=Zo hq.reads
 have r33:w4.cell? ⟨p.mb,33,none⟩=some (.slice av s.reads.length cv):=by rw [←F.mb,show Value.slice av s.reads.length cv=q.vr from hv.symm];exact (hq.cell 33 (u:=q.vr) rfl).1
 have hrow:=hq.reads
 rw [hv] at hrow
 have hF:=Zh_ F.mb
 have HF:=Zh_ F
 have HQ:=Zh_ hq
 have HV:=Zh_ hv
 have HNQ:=Zh_ hnq
 have HSZ:=Zh_ hsz
 clear F hq hv hnq hsz
 obtain ⟨i0,hi0,hz0,hz1,hz2⟩:=info_parts Pb
 go_wp2_with (at_builtin;refine wpList_append_own_at _ rfl _ _ 46 rfl 0 53 i0 (.agg #[.int .i64 0,.float .f64 0]) 2 16 underlying46 hi0 hz0 hz1 hz2 rfl (by decide) _ _ _ rfl (hrow.alloc _) ⟨w4.heap.size,0,none⟩ 1 1 [Value.int .i64 c,Value.float .f64 (s.buf.val c)] rfl rfl ?CA ?CB ?CC ?CD ?CE ?_)
 case CA=>exact Ba _ _ _ _
 case CB=>intro u hu;simp at hu;rcases hu with rfl|rfl <;> rfl
 case CC=>unfold maxLen;show s.reads.length+1≤_;omega
 case CD=>show (s.reads.length+1) * 16≤_;omega
 case CE=>exact Nat.zero_le _
 intro u' w5 ho5 hg5 _ hat
 obtain ⟨g5,cap5,rfl,-⟩:=Yd ho5 (by omega)
 have m5:Ze q.vr.ownBlock.toList w4 w5:=((Zr_ _ _).alloc _).grown hg5 (fun g hg=>.inl (by rw [HV.out];exact Option.mem_toList.2 hg))
 have hon:Uq w4 q.vr (.slice (some ⟨g5,0,none⟩) (s.reads.length+1) cap5):=by
  rcases hat with e|e
  ·exact .inl (by rw [HV.out];exact e)
  ·exact .inr ⟨_,e,by simp⟩
 have hm5:q.mb∉q.vr.ownBlock.toList:=fun hm=>Zt HQ.out.t_mb (HQ.out.t_vr (by simpa using hm)) (by decide) rfl
 have K5:=m5.at HQ.out.hd hm5
 have r33':w5.cell? ⟨p.mb,33,none⟩=some (.slice av s.reads.length cv):=by rw [←hF.out,show Value.slice av s.reads.length cv=q.vr from HV.out.symm];exact Za K5 rfl
 have f33':w5.frozen? ⟨p.mb,33,none⟩=false:=by rw [←hF.out];exact Zb K5
 have RB:=m5.at RB4 (fun hm=>HNQ.out (by rw [Y3];simp at hm;simp [hm]))
 have HRB:=Zh_ RB
 have g0:w5.cell? ⟨w.heap.size,0,none⟩=some (.int .i64 0):=Za RB rfl
 have z0:w5.frozen? ⟨w.heap.size,0,none⟩=false:=Zb RB
 have g1:w5.cell? ⟨w.heap.size,1,none⟩=some (.int .i64 0):=Za RB rfl
 have z1:w5.frozen? ⟨w.heap.size,1,none⟩=false:=Zb RB
 have g2:w5.cell? ⟨w.heap.size,2,none⟩=some (.float .f64 0):=Za RB rfl
 have z2:w5.frozen? ⟨w.heap.size,2,none⟩=false:=Zb RB
 have g3:w5.cell? ⟨w.heap.size,3,none⟩=some (.bool false):=Za RB rfl
 have z3:w5.frozen? ⟨w.heap.size,3,none⟩=false:=Zb RB
 have ho5':w5.ownsRow 0 53 2 (.slice (some ⟨g5,0,none⟩) (s.reads.length+1) cap5) (s.reads++[(c,s.buf.val c)]).length (Yh (s.reads++[(c,s.buf.val c)])):=by
  rw [Ks]
  simpa [Yh,Zl.push,Zl.pop] using ho5
 have HO:=Zh_ ho5'
 have HON:=Zh_ hon
 have HM:=Zh_ m5
 have hne:w.heap.size≠p.mb:=by omega
 clear RB RB4 hat hg5 ho5 ho5' hon m5 hm5 K5 hrow r33 hlt
 go_wp2
 have RB:=Zd (i:=3) (.bool (false)) (Zd (i:=2) (.float .f64 (s.buf.val c)) (Zd (i:=1) (.int .i64 c) (Zd (i:=0) (.int .i64 2) (Zq (i:=33) (.slice (some ⟨g5,0,none⟩) (s.reads.length+1) cap5) HRB.out hne))))
 refine bodyPost_ret (v:=(⟨2,c,s.buf.val c,false⟩:Xg).val) (results_cell_row (P:=Tryz.prog) (fn:=Tryz.f161) (p:=2) (ty:=152) rfl _ _ w.heap.size 152 _ (0,0) _ rfl RB underlying152 rfl (by kernel_rfl)) rfl ⟨rfl,?_⟩
 obtain ⟨k1,k2⟩:=HQ.out.setReads HO.out HON.out HM.out
 have D6:Zk (w.alloc Ya) p {(s.pop.push (s.buf.val c)) with reads:=s.reads++[(c,s.buf.val c)]} (w5.setCell ⟨q.mb,33,none⟩ (.slice (some ⟨g5,0,none⟩) (s.reads.length+1) cap5)):=⟨_,k1,HF.out.trans k2⟩
 rw [hF.out] at D6
 exact D6.fin HH.out (((((Zr_ _ _).setCell _ _ (.inl (by simp))).setCell _ _ (.inl (by simp))).setCell _ _ (.inl (by simp))).setCell _ _ (.inl (by simp)))
end
section
attribute [local go_sem] Zi
variable {w w' w0:World} {p p':MP} {s s':Zl}
theorem R3 (ht:s.tag≠2):s.writeE=.error 81:=by unfold Zl.writeE;rw [if_pos ht]
theorem R4 (ht:s.tag=2) (hi:Vg s.top s.c0=none):s.writeE=.error 50:=by unfold Zl.writeE;rw [if_neg (by simp [ht]),hi]
theorem Ni {c:Int} (ht:s.tag=2) (hi:Vg s.top s.c0=some c) (hk:s.buf.known c=false) (hf:(s.buf.order.length:Int)=s.buf.most):s.writeE=.error 70:=by unfold Zl.writeE;rw [if_neg (by simp [ht]),hi];exact if_pos ⟨hk,hf⟩
theorem Hh {c:Int} (ht:s.tag=2) (hi:Vg s.top s.c0=some c) (hk:¬ (s.buf.known c=false∧(s.buf.order.length:Int)=s.buf.most)):s.writeE=.ok ({s.pop.pop with buf:=s.buf.put c (s.pick 1)},⟨3,c,s.pick 1,!s.buf.known c⟩):=by unfold Zl.writeE;rw [if_neg (by simp [ht]),hi];exact if_neg hk
theorem write_ro (h:Zg w p s) (ht:s.tag≠2):Calls Tryz.prog 162 #[.pointer (some ⟨p.mb,0,none⟩)] w (ExP w p s s.writeE):=by
 rw [R3 ht]
 have D0:Zk (w.alloc Ya) p s (w.alloc Ya):=.same (h.alloc _)
 have hkn:=Zh_ h.new
 have hlt:=lt_of_block h.hd
 have r4:w.cell? ⟨p.mb,4,none⟩=some (.int .i64 s.tag):=(h.cell 4 (u:=.int .i64 s.tag) rfl).1
 have HH:=Zh_ h
 clear h
 have ht':(s.tag !=2)=true:=by simp [ht]
 go_enter func162,ntmps162
 go_wp2_with fail
 refine (Ug 81 (by decide) _).mono ?_;rintro e w1 ⟨rfl,hw1⟩
 have hw1':=hw1.symm
 subst hw1'
 go_wp2
 exact ⟨rfl,rfl,D0.pre ((Zr_ _ _).alloc _)⟩
theorem write_no (h:Zg w p s) (hl:2≤s.nums.length) (hb:s.nums.length≤64) (ht:s.tag=2) (hi:Vg s.top s.c0=none):Calls Tryz.prog 162 #[.pointer (some ⟨p.mb,0,none⟩)] w (ExP w p s s.writeE):=by
 rw [R4 ht hi]
 have D0:Zk (w.alloc Ya) p s (w.alloc Ya):=.same (h.alloc _)
 have hkn:=Zh_ h.new
 have hlt:=lt_of_block h.hd
 have r4:w.cell? ⟨p.mb,4,none⟩=some (.int .i64 s.tag):=(h.cell 4 (u:=.int .i64 s.tag) rfl).1
 have HH:=Zh_ h
 clear h
 rw [ht] at r4
 go_enter func162,ntmps162
 go_wp2_with fail
 refine (N8 D0 (by omega) hb hi).mono ?_;rintro e w1 ⟨rfl,D1⟩
 go_wp2
 exact ⟨rfl,rfl,D1.pre ((Zr_ _ _).alloc _)⟩
theorem Th (h:Zg w p s) (hl:2≤s.nums.length) (hb:s.nums.length≤64) (ht:s.tag=2) {c:Int} (hi:Vg s.top s.c0=some c) (hcw:(Lit.int .i64 c).wf=true) (hk:s.buf.known c=false) (hf:(s.buf.order.length:Int)=s.buf.most):Calls Tryz.prog 162 #[.pointer (some ⟨p.mb,0,none⟩)] w (ExP w p s s.writeE):=by
 rw [Ni ht hi hk hf]
 have D0:Zk (w.alloc Ya) p s (w.alloc Ya):=.same (h.alloc _)
 have hkn:=Zh_ h.new
 have hlt:=lt_of_block h.hd
 have r4:w.cell? ⟨p.mb,4,none⟩=some (.int .i64 s.tag):=(h.cell 4 (u:=.int .i64 s.tag) rfl).1
 have HH:=Zh_ h
 clear h
 rw [ht] at r4
 go_enter func162,ntmps162
 go_wp2_with fail
 refine (U6 D0 (by omega) hb hi).mono ?_;rintro e w1 ⟨rfl,D1⟩
 have D1':=D1
 obtain ⟨q,hq,F⟩:=D1'
 have r23:w1.cell? ⟨p.mb,23,none⟩=some (.pointer (some ⟨q.nb,0,none⟩)):=by rw [←F.mb];exact (hq.cell 23 (u:=.pointer (some ⟨q.nb,0,none⟩)) rfl).1
 clear D0 r4
 go_wp2_with fail
 refine (Vc hq.nums 1 (by omega) (by omega)).mono ?_;rintro e w2 ⟨rfl,n,rfl⟩
 have D2:=D1.drewN' n
 have ep:s.nums.getD (s.nums.length - 1 - 1) 0=s.pick 1:=rfl
 rw [ep]
 clear D1 r23 hq F ep
 generalize w1.drewN n=w2 at *
 obtain ⟨q,hq,F⟩:=D2
 have r34:w2.cell? ⟨p.mb,34,none⟩=some (.pointer (some ⟨q.bb,0,none⟩)):=by rw [←F.mb];exact (hq.cell 34 (u:=.pointer (some ⟨q.bb,0,none⟩)) rfl).1
 go_wp2_with fail
 refine (buf_full hq.buf c hcw hk hf (s.pick 1)).mono ?_;rintro e w3 ⟨rfl,m,rfl⟩
 have D3:=Zk.drewN' (⟨q,hq,F⟩:Zk (w.alloc Ya) p s w2) m
 go_wp2_with fail
 refine (Ug 70 (by decide) _).mono ?_;rintro e w1 ⟨rfl,hw1⟩
 have hw1':=hw1.symm
 subst hw1'
 go_wp2
 exact ⟨rfl,rfl,D3.pre ((Zr_ _ _).alloc _)⟩
theorem Nh (h:Zg w p s) (hl:2≤s.nums.length) (hb:s.nums.length≤64) (ht:s.tag=2) {c:Int} (hi:Vg s.top s.c0=some c) (hcw:(Lit.int .i64 c).wf=true) (hk:s.buf.known c=true):Calls Tryz.prog 162 #[.pointer (some ⟨p.mb,0,none⟩)] w (ExP w p s s.writeE):=by
 rw [Hh ht hi (by simp [hk]),hk]
 have D0:Zk (w.alloc Ya) p s (w.alloc Ya):=.same (h.alloc _)
 have hkn:=Zh_ h.new
 have hlt:=lt_of_block h.hd
 have r4:w.cell? ⟨p.mb,4,none⟩=some (.int .i64 s.tag):=(h.cell 4 (u:=.int .i64 s.tag) rfl).1
 have HH:=Zh_ h
 clear h
 rw [ht] at r4
 go_enter func162,ntmps162
 go_wp2_with fail
 refine (U6 D0 (by omega) hb hi).mono ?_;rintro e w1 ⟨rfl,D1⟩
 have D1':=D1
 obtain ⟨q,hq,F⟩:=D1'
 have r23:w1.cell? ⟨p.mb,23,none⟩=some (.pointer (some ⟨q.nb,0,none⟩)):=by rw [←F.mb];exact (hq.cell 23 (u:=.pointer (some ⟨q.nb,0,none⟩)) rfl).1
 clear D0 r4
 go_wp2_with fail
 refine (Vc hq.nums 1 (by omega) (by omega)).mono ?_;rintro e w2 ⟨rfl,n,rfl⟩
 have D2:=D1.drewN' n
 have ep:s.nums.getD (s.nums.length - 1 - 1) 0=s.pick 1:=rfl
 rw [ep]
 clear D1 r23 hq F ep
 generalize w1.drewN n=w2 at *
 obtain ⟨q,hq,F⟩:=D2
 have r34:w2.cell? ⟨p.mb,34,none⟩=some (.pointer (some ⟨q.bb,0,none⟩)):=by rw [←F.mb];exact (hq.cell 34 (u:=.pointer (some ⟨q.bb,0,none⟩)) rfl).1
 go_wp2_with fail
 refine (Pv hq.buf c hcw hk (s.pick 1)).mono ?_;rintro e w3 ⟨rfl,B3,m3⟩
 obtain ⟨h3,F3⟩:=hq.setBuf B3 (.refl) (m3.mono (by simp))
 have D3:Zk (w.alloc Ya) p {s with buf:=s.buf.put c (s.pick 1)} w3:=⟨_,h3,F.trans F3⟩
 clear r34 hq F B3 m3 h3 F3
 go_wp2_with fail
 refine (must_k _).mono ?_;rintro e w4 ⟨rfl,hw4⟩
 have hw4':=hw4.symm
 subst hw4'
 go_wp2_with fail
 refine (Xn D3 (show 0 < s.nums.length by omega) (show s.nums.length≤64 by omega)).mono ?_;rintro e w5 ⟨rfl,D5⟩
 go_wp2_with fail
 refine (Xn D5 (show 0 < s.nums.dropLast.length by simp;omega) (show s.nums.dropLast.length≤64 by simp;omega)).mono ?_;rintro e w6 ⟨rfl,D6⟩
 have RB:=D6.res (Zc w Ya) hkn.out
 have HRB:=Zh_ RB
 have g0:w6.cell? ⟨w.heap.size,0,none⟩=some (.int .i64 0):=Za RB rfl
 have z0:w6.frozen? ⟨w.heap.size,0,none⟩=false:=Zb RB
 have g1:w6.cell? ⟨w.heap.size,1,none⟩=some (.int .i64 0):=Za RB rfl
 have z1:w6.frozen? ⟨w.heap.size,1,none⟩=false:=Zb RB
 have g2:w6.cell? ⟨w.heap.size,2,none⟩=some (.float .f64 0):=Za RB rfl
 have z2:w6.frozen? ⟨w.heap.size,2,none⟩=false:=Zb RB
 have g3:w6.cell? ⟨w.heap.size,3,none⟩=some (.bool false):=Za RB rfl
 have z3:w6.frozen? ⟨w.heap.size,3,none⟩=false:=Zb RB
 have HD:=Zh_ D6
 clear RB D3 D5 D6
 go_wp2
 have RB:=Zd (i:=3) (.bool (!true)) (Zd (i:=2) (.float .f64 (s.pick 1)) (Zd (i:=1) (.int .i64 c) (Zd (i:=0) (.int .i64 3) (HRB.out))))
 refine bodyPost_ret (v:=(⟨3,c,s.pick 1,!true⟩:Xg).val) (results_cell_row (P:=Tryz.prog) (fn:=Tryz.f162) (p:=2) (ty:=152) rfl _ _ w.heap.size 152 _ (0,0) _ rfl RB underlying152 rfl (by kernel_rfl)) rfl ⟨rfl,?_⟩
 exact Zk.fin (show Zk (w.alloc Ya) p {s.pop.pop with buf:=s.buf.put c (s.pick 1)} w6 from HD.out) HH.out (((((Zr_ _ _).setCell _ _ (.inl (by simp))).setCell _ _ (.inl (by simp))).setCell _ _ (.inl (by simp))).setCell _ _ (.inl (by simp)))
theorem R1 (h:Zg w p s) (hl:2≤s.nums.length) (hb:s.nums.length≤64) (ht:s.tag=2) {c:Int} (hi:Vg s.top s.c0=some c) (hcw:(Lit.int .i64 c).wf=true) (hk:s.buf.known c=false) (hf:(s.buf.order.length:Int) < s.buf.most):Calls Tryz.prog 162 #[.pointer (some ⟨p.mb,0,none⟩)] w (ExP w p s s.writeE):=by
 rw [Hh ht hi (by omega),hk]
 have D0:Zk (w.alloc Ya) p s (w.alloc Ya):=.same (h.alloc _)
 have hkn:=Zh_ h.new
 have hlt:=lt_of_block h.hd
 have r4:w.cell? ⟨p.mb,4,none⟩=some (.int .i64 s.tag):=(h.cell 4 (u:=.int .i64 s.tag) rfl).1
 have HH:=Zh_ h
 clear h
 rw [ht] at r4
 go_enter func162,ntmps162
 go_wp2_with fail
 refine (U6 D0 (by omega) hb hi).mono ?_;rintro e w1 ⟨rfl,D1⟩
 have D1':=D1
 obtain ⟨q,hq,F⟩:=D1'
 have r23:w1.cell? ⟨p.mb,23,none⟩=some (.pointer (some ⟨q.nb,0,none⟩)):=by rw [←F.mb];exact (hq.cell 23 (u:=.pointer (some ⟨q.nb,0,none⟩)) rfl).1
 clear D0 r4
 go_wp2_with fail
 refine (Vc hq.nums 1 (by omega) (by omega)).mono ?_;rintro e w2 ⟨rfl,n,rfl⟩
 have D2:=D1.drewN' n
 have ep:s.nums.getD (s.nums.length - 1 - 1) 0=s.pick 1:=rfl
 rw [ep]
 clear D1 r23 hq F ep
 generalize w1.drewN n=w2 at *
 obtain ⟨q,hq,F⟩:=D2
 have r34:w2.cell? ⟨p.mb,34,none⟩=some (.pointer (some ⟨q.bb,0,none⟩)):=by rw [←F.mb];exact (hq.cell 34 (u:=.pointer (some ⟨q.bb,0,none⟩)) rfl).1
 go_wp2_with fail
 refine (Mt hq.buf c hcw hk hf (s.pick 1)).mono ?_;rintro e w3 ⟨rfl,v3,B3,o3,m3⟩
 obtain ⟨h3,F3⟩:=hq.setBuf B3 o3 m3
 have D3:Zk (w.alloc Ya) p {s with buf:=s.buf.put c (s.pick 1)} w3:=⟨_,h3,F.trans F3⟩
 clear r34 hq F B3 m3 h3 F3 o3
 go_wp2_with fail
 refine (must_k _).mono ?_;rintro e w4 ⟨rfl,hw4⟩
 have hw4':=hw4.symm
 subst hw4'
 go_wp2_with fail
 refine (Xn D3 (show 0 < s.nums.length by omega) (show s.nums.length≤64 by omega)).mono ?_;rintro e w5 ⟨rfl,D5⟩
 go_wp2_with fail
 refine (Xn D5 (show 0 < s.nums.dropLast.length by simp;omega) (show s.nums.dropLast.length≤64 by simp;omega)).mono ?_;rintro e w6 ⟨rfl,D6⟩
 have RB:=D6.res (Zc w Ya) hkn.out
 have HRB:=Zh_ RB
 have g0:w6.cell? ⟨w.heap.size,0,none⟩=some (.int .i64 0):=Za RB rfl
 have z0:w6.frozen? ⟨w.heap.size,0,none⟩=false:=Zb RB
 have g1:w6.cell? ⟨w.heap.size,1,none⟩=some (.int .i64 0):=Za RB rfl
 have z1:w6.frozen? ⟨w.heap.size,1,none⟩=false:=Zb RB
 have g2:w6.cell? ⟨w.heap.size,2,none⟩=some (.float .f64 0):=Za RB rfl
 have z2:w6.frozen? ⟨w.heap.size,2,none⟩=false:=Zb RB
 have g3:w6.cell? ⟨w.heap.size,3,none⟩=some (.bool false):=Za RB rfl
 have z3:w6.frozen? ⟨w.heap.size,3,none⟩=false:=Zb RB
 have HD:=Zh_ D6
 clear RB D3 D5 D6
 go_wp2
 have RB:=Zd (i:=3) (.bool (!false)) (Zd (i:=2) (.float .f64 (s.pick 1)) (Zd (i:=1) (.int .i64 c) (Zd (i:=0) (.int .i64 3) (HRB.out))))
 refine bodyPost_ret (v:=(⟨3,c,s.pick 1,!false⟩:Xg).val) (results_cell_row (P:=Tryz.prog) (fn:=Tryz.f162) (p:=2) (ty:=152) rfl _ _ w.heap.size 152 _ (0,0) _ rfl RB underlying152 rfl (by kernel_rfl)) rfl ⟨rfl,?_⟩
 exact Zk.fin (show Zk (w.alloc Ya) p {s.pop.pop with buf:=s.buf.put c (s.pick 1)} w6 from HD.out) HH.out (((((Zr_ _ _).setCell _ _ (.inl (by simp))).setCell _ _ (.inl (by simp))).setCell _ _ (.inl (by simp))).setCell _ _ (.inl (by simp)))
end
section
attribute [local go_sem] Zi
variable {w w' w0:World} {p p':MP} {s s':Zl}
theorem grew_r {w4 w5 wa:World} {q:MP} (hq:Zg w4 q s) {v:Value} (hv:q.vr=v) (ma:Ze [] w4 wa) (hg:wa.grownBy w5 v.ownBlock) {g n cap:Nat} (hat:v.ownBlock=some g∨g=wa.heap.size):
  Ze q.vr.ownBlock.toList w4 w5∧Uq w4 q.vr (.slice (some ⟨g,0,none⟩) n cap)∧w5.heap[q.mb]? =some (.cells (Ql q s) 185 (0,0)):=by
 subst hv
 have m:Ze q.vr.ownBlock.toList w4 w5:=(ma.weak _).grown hg (fun g hg=>.inl (Option.mem_toList.2 hg))
 refine ⟨m,?_,m.at hq.hd (fun hm=>Zt hq.t_mb (hq.t_vr (by simpa using hm)) (by decide) rfl)⟩
 rcases hat with e|e
 ·exact .inl (by rw [e];rfl)
 ·exact .inr ⟨g,rfl,by rw [e];exact ma.size⟩
theorem grew_o {w4 w5 wa:World} {q:MP} (hq:Zg w4 q s) {v:Value} (hv:q.vo=v) (ma:Ze [] w4 wa) (hg:wa.grownBy w5 v.ownBlock) {g n cap:Nat} (hat:v.ownBlock=some g∨g=wa.heap.size):
  Ze q.vo.ownBlock.toList w4 w5∧Uq w4 q.vo (.slice (some ⟨g,0,none⟩) n cap)∧w5.heap[q.mb]? =some (.cells (Ql q s) 185 (0,0)):=by
 subst hv
 have m:Ze q.vo.ownBlock.toList w4 w5:=(ma.weak _).grown hg (fun g hg=>.inl (Option.mem_toList.2 hg))
 refine ⟨m,?_,m.at hq.hd (fun hm=>Zt hq.t_mb (hq.t_vo (by simpa using hm)) (by decide) rfl)⟩
 rcases hat with e|e
 ·exact .inl (by rw [e];rfl)
 ·exact .inr ⟨g,rfl,by rw [e];exact ma.size⟩
theorem C6 (h:Zg w p s) (hwt:s.waits=true) (hl:s.nums.length < 64) (hr:s.reads.length≤4096) (x:Nat):Calls Tryz.prog 110 #[.pointer (some ⟨p.mb,0,none⟩),.float .f64 x] w fun e w'=>e=.returned (.int .i64 0)∧Zk w p (s.give x) w':=by
 have r27:=(h.cell 27 (u:=.bool s.waits) rfl).1
 rw [hwt] at r27
 have D0:Zk w p s w:=.same h
 have hlt:=lt_of_block h.hd
 go_enter func110,ntmps110
 go_wp2_with fail
 refine (Yp _ _).mono ?_;rintro e w1 ⟨rfl,hw1⟩
 have hw1':=hw1.symm
 subst hw1'
 go_wp2_with fail
 refine (Y4 D0 hl (Zu x)).mono ?_;rintro e w4 ⟨rfl,D4⟩
 clear r27 D0 h
 obtain ⟨q,hq,F⟩:=D4
 obtain ⟨av,cv,hv⟩:=Zo hq.reads
 have r33:w4.cell? ⟨p.mb,33,none⟩=some (.slice av s.reads.length cv):=by rw [←F.mb,show Value.slice av s.reads.length cv=q.vr from hv.symm];exact (hq.cell 33 (u:=q.vr) rfl).1
 have r28:w4.cell? ⟨p.mb,28,none⟩=some (.int .i64 s.cell):=by rw [←F.mb];exact (hq.cell 28 (u:=.int .i64 s.cell) rfl).1
 have hlt4:p.mb < w4.heap.size:=by rw [←F.mb];exact lt_of_block hq.hd
 have hrow:w4.drew.ownsRow 0 53 2 (.slice av s.reads.length cv) s.reads.length (Yh s.reads):=by have:=hq.reads;rw [hv] at this;exact this
 have hF:=Zh_ F.mb
 have HF:=Zh_ F
 have HQ:=Zh_ hq
 have HV:=Zh_ hv
 clear F hq hv
 obtain ⟨i0,hi0,hz0,hz1,hz2⟩:=info_parts Pb
 go_wp2_with fail
 go_region_law (refine step_append_lies _ rfl (.tmp 19) (.tmp 26) 46 rfl 0 53 i0 (.agg #[.int .i64 0,.float .f64 0]) 2 16 underlying46 hi0 hz0 hz1 hz2 rfl (by decide) (.slice av s.reads.length cv) s.reads.length (Yh s.reads) (by simp [Act.eval]) (hrow.alloc _) ⟨w4.heap.size,0,none⟩ 1 1 [Value.int .i64 s.cell,Value.float .f64 (Zu x)] (by simp [Act.eval]) rfl (Ba w4.drew _ _ 53) (by intro u hu;simp at hu;rcases hu with rfl|rfl <;> rfl) (by decide) (by unfold maxLen;omega) (by omega) (Nat.zero_le _) _ rfl ?_;intro g5 cap5 w5 ho5 hg5 hat hlt5;obtain ⟨m5,hon,K5⟩:=grew_r (n:=s.reads.length+1) (cap:=cap5) HQ.out HV.out (((Zr_ [] w4).drew).alloc _) hg5 hat;rw [hF.out] at K5;have r33':=Za (i:=33) K5 rfl;have f33':=Zb (i:=33) K5;have r27':=Za (i:=27) K5 rfl;have f27':=Zb (i:=27) K5;have HO:=Zh_ ho5;have HON:=Zh_ hon;have HM:=Zh_ m5;clear ho5 hg5 hat hlt5 hon m5 K5)
 all_goals
  go_wp2
  go_ret
  obtain ⟨k1,k2⟩:=HQ.out.setReads (xs:=s.reads++[(s.cell,Zu x)]) (by rw [Ks,List.length_append];exact HO.out) HON.out HM.out
  have D6:Zk w p {(s.push (Zu x)) with reads:=s.reads++[(s.cell,Zu x)]} (w5.setCell ⟨q.mb,33,none⟩ (.slice (some ⟨g5,0,none⟩) (s.reads.length+1) cap5)):=⟨_,k1,HF.out.trans k2⟩
  rw [hF.out] at D6
  exact ⟨rfl,D6.set1 27 (.bool false) (s.give x) (fun _=>rfl) rfl rfl rfl rfl rfl rfl⟩
end
section
attribute [local go_sem] Zi
variable {w w' w0:World} {p p':MP} {s s':Zl}
def Qs (w:World) (t:TypeId) (z n:Nat) (xs:List Value) (e:Ending) (w':World):Prop:=
 ∃ u,e=.returned u∧w'.ownsRow 0 t z u n xs∧(∀ g,u.ownBlock=some g→w.heap.size≤g)∧Ze [] w w'
theorem Qs.of {w w':World} {t:TypeId} {z n:Nat} {xs:List Value} {u:Value} (h:w'.ownsRow 0 t z u n xs) (hg:w.grownBy w' none) (hb:u.ownBlock=none∨u.ownBlock=some w.heap.size):Qs w t z n xs (.returned u) w':=by
 refine ⟨u,rfl,h,fun g hg'=>?_,(Zr_ _ _).grown hg (by simp)⟩
 rcases hb with e|e
 ·rw [e] at hg';simp at hg'
 ·rw [e] at hg';simp at hg';omega
theorem end_c (h:Zg w p s):Calls Tryz.prog 111 #[.pointer (some ⟨p.mb,0,none⟩)] w fun e w'=>e=.returned (.agg #[.int .i64 s.how,.int .i64 s.ecode,.int .i64 s.eerr])∧Ze [] w w':=by
 have r29:=(h.cell 29 (u:=.int .i64 s.how) rfl).1
 have r30:=(h.cell 30 (u:=.int .i64 s.ecode) rfl).1
 have r31:=(h.cell 31 (u:=.int .i64 s.eerr) rfl).1
 have hlt:=lt_of_block h.hd
 clear h
 go_enter func111,ntmps111
 go_wp2
 refine bodyPost_ret (v:=.agg #[.int .i64 s.how,.int .i64 s.ecode,.int .i64 s.eerr]) (results_cell_row (P:=Tryz.prog) (fn:=Tryz.f111) (p:=2) (ty:=48) rfl _ _ w.heap.size 48 _ (0,0) _ rfl (Zc _ _) underlying48 rfl (by kernel_rfl)) rfl ⟨rfl,(Zr_ _ _).alloc _⟩
theorem out_c (h:Zg w p s) (hb:s.out.length≤4096):Calls Tryz.prog 231 #[.pointer (some ⟨p.mb,0,none⟩)] w (Qs w 51 1 s.out.length (s.out.map (Value.float .f64))):=by
 have r32:=(h.cell 32 (u:=p.vo) rfl).1
 rcases h.out.2 with ⟨hv,h0⟩|⟨g,cap,cur,hv,-,-⟩
 ·rw [hv] at r32
  have e0:s.out=[]:=List.eq_nil_of_length_eq_zero h0
  rw [e0]
  clear h
  go_enter func231,ntmps231
  go_wp2
  go_ret
  exact ⟨_,rfl,World.ownsRow_nil _ _ _ _,by simp [Value.ownBlock],Zr_ _ _⟩
 ·rw [hv] at r32
  have ho:=h.out
  rw [hv] at ho
  have hc:=ho.cells (g:=g) rfl
  obtain ⟨i0,hi0,hz0,hz1,hz2⟩:=info_parts Uh
  clear h ho
  go_enter func231,ntmps231
  go_wp2_with (at_builtin;refine wpList_append_own_at _ rfl _ _ 24 rfl 0 51 i0 (.float .f64 0) 1 8 underlying24 hi0 hz0 hz1 hz2 rfl (by decide) _ 0 [] rfl (World.ownsRow_nil _ _ _ _) ⟨g,0,none⟩ s.out.length cap (s.out.map (Value.float .f64)) rfl (by simp) ?CA ?CB ?CC ?CD ?CE ?_)
  case CA=>exact hc
  case CB=>intro u hu;simp at hu;obtain ⟨a,_,rfl⟩:=hu;rfl
  case CC=>unfold maxLen;omega
  case CD=>omega
  case CE=>exact Nat.zero_le _
  intro u' w5 ho5 hg5 _ hat
  have HC:=Zh_ (Qs.of ho5 hg5 hat)
  clear ho5 hg5 hat hc
  go_wp2
  go_ret
  exact HC.out
theorem Bg (l:List (Int×Nat)):∀ u∈Yh l,u.oneCell'=true:=by
 intro u hu
 unfold Yh at hu
 simp at hu
 obtain ⟨a,b,_,rfl|rfl⟩:=hu <;> rfl
theorem Ly (h:Zg w p s) (hb:s.reads.length≤4096):Calls Tryz.prog 230 #[.pointer (some ⟨p.mb,0,none⟩)] w (Qs w 53 2 s.reads.length (Yh s.reads)):=by
 have r33:=(h.cell 33 (u:=p.vr) rfl).1
 rcases h.reads.2 with ⟨hv,h0⟩|⟨g,cap,cur,hv,-,-⟩
 ·rw [hv] at r33
  have e0:s.reads=[]:=List.eq_nil_of_length_eq_zero h0
  rw [e0]
  clear h
  go_enter func230,ntmps230
  go_wp2
  go_ret
  exact ⟨_,rfl,World.ownsRow_nil _ _ _ _,by simp [Value.ownBlock],Zr_ _ _⟩
 ·rw [hv] at r33
  have ho:=h.reads
  rw [hv] at ho
  have hc:=ho.cells (g:=g) rfl
  obtain ⟨i0,hi0,hz0,hz1,hz2⟩:=info_parts Pb
  clear h ho
  go_enter func230,ntmps230
  go_wp2_with (at_builtin;refine wpList_append_own_at _ rfl _ _ 46 rfl 0 53 i0 (.agg #[.int .i64 0,.float .f64 0]) 2 16 underlying46 hi0 hz0 hz1 hz2 rfl (by decide) _ 0 [] rfl (World.ownsRow_nil _ _ _ _) ⟨g,0,none⟩ s.reads.length cap (Yh s.reads) rfl (Hj _) ?CA ?CB ?CC ?CD ?CE ?_)
  case CA=>exact hc
  case CB=>exact Bg _
  case CC=>unfold maxLen;omega
  case CD=>omega
  case CE=>exact Nat.zero_le _
  intro u' w5 ho5 hg5 _ hat
  have HC:=Zh_ (Qs.of ho5 hg5 hat)
  clear ho5 hg5 hat hc
  go_wp2
  go_ret
  exact HC.out
theorem Hg (h:Zg w p s) (hw:∀ k∈s.buf.order,0≤k∧k < 256):Calls Tryz.prog 114 #[.pointer (some ⟨p.mb,0,none⟩)] w (Qs w 53 2 s.buf.order.length (Yh s.buf.all)):=by
 have r34:=(h.cell 34 (u:=.pointer (some ⟨p.bb,0,none⟩)) rfl).1
 go_enter func114,ntmps114
 go_wp2_with fail
 refine (buf_all h.buf (fun k hk=>Nj (hw k hk))).mono ?_;rintro e w1 ⟨u,rfl,h1,h2,h3⟩
 have HC:=Zh_ (show Qs w 53 2 s.buf.order.length (Yh s.buf.all) (.returned u) w1 from ⟨u,rfl,h1,fun g hg=>by rw [h2] at hg;simp at hg;omega,h3⟩)
 clear h1 h2 h3 h
 go_wp2
 go_ret
 exact HC.out
end
section
attribute [local go_sem] Zi
variable {w w' w0:World} {p p':MP} {s s':Zl}
def Up (w:World) (p:MP) (s:Zl) (i:Xf) (e:Ending) (w':World):Prop:=e=.returned (.tuple #[])∧∃ v,Zk w p (s.reckon v i) w'
theorem reckon1 (h:Zg w p s) (n:Int) (x:Nat) (hl:s.nums.length < 64):Calls Tryz.prog 167 #[.pointer (some ⟨p.mb,0,none⟩),.agg #[.int .i64 1,.int .i64 n,.float .f64 x]] w (Up w p s ⟨1,n,x⟩):=by
 have D0:Zk (w.alloc (.cells #[.int .i64 1,.int .i64 n,.float .f64 x] 106)) p s (w.alloc (.cells #[.int .i64 1,.int .i64 n,.float .f64 x] 106)):=.same (h.alloc _)
 have hlt:=lt_of_block h.hd
 go_enter func167,ntmps167
 go_wp2_with fail
 refine (Yp _ _).mono ?_;rintro e w1 ⟨rfl,hw1⟩
 have hw1':=hw1.symm
 subst hw1'
 go_wp2_with fail
 refine (Y4 D0 (show s.nums.length < 64 by omega) (Zu x)).mono ?_;rintro e w1 ⟨rfl,D1⟩
 go_wp2
 go_end0
 exact ⟨rfl,0,D1.pre ((Zr_ _ _).alloc _)⟩
theorem reckon2 (h:Zg w p s) (n:Int) (x:Nat) (hl:0 < s.nums.length) (hb:s.nums.length≤64):Calls Tryz.prog 167 #[.pointer (some ⟨p.mb,0,none⟩),.agg #[.int .i64 2,.int .i64 n,.float .f64 x]] w (Up w p s ⟨2,n,x⟩):=by
 have D0:Zk (w.alloc (.cells #[.int .i64 2,.int .i64 n,.float .f64 x] 106)) p s (w.alloc (.cells #[.int .i64 2,.int .i64 n,.float .f64 x] 106)):=.same (h.alloc _)
 have hlt:=lt_of_block h.hd
 go_enter func167,ntmps167
 go_wp2_with fail
 refine (Xn D0 (show 0 < s.nums.length by omega) (show s.nums.length≤64 by omega)).mono ?_;rintro e w1 ⟨rfl,D1⟩
 go_wp2
 go_end0
 exact ⟨rfl,0,D1.pre ((Zr_ _ _).alloc _)⟩
theorem reckon3 (h:Zg w p s) (n:Int) (x:Nat) (hl:0 < s.nums.length) (hb:s.nums.length < 64):Calls Tryz.prog 167 #[.pointer (some ⟨p.mb,0,none⟩),.agg #[.int .i64 3,.int .i64 n,.float .f64 x]] w (Up w p s ⟨3,n,x⟩):=by
 have D0:Zk (w.alloc (.cells #[.int .i64 3,.int .i64 n,.float .f64 x] 106)) p s (w.alloc (.cells #[.int .i64 3,.int .i64 n,.float .f64 x] 106)):=.same (h.alloc _)
 have hlt:=lt_of_block h.hd
 have r23:=(h.cell 23 (u:=.pointer (some ⟨p.nb,0,none⟩)) rfl).1
 have hp:=Vc (h.nums.mod ((Zr_ [] w).alloc (.cells #[.int .i64 3,.int .i64 n,.float .f64 x] 106)) (by simp) (by simp)) 0 hl (by omega)
 rw [show s.nums.getD (s.nums.length - 1 - 0) 0=s.top from rfl] at hp
 clear h
 go_enter func167,ntmps167
 go_wp2_with fail
 refine hp.mono ?_;rintro e w1 ⟨rfl,m,rfl⟩
 have D1:=D0.drewN' m
 clear hp D0
 go_wp2_with fail
 refine (Y4 D1 (show s.nums.length < 64 by omega) (s.top)).mono ?_;rintro e w2 ⟨rfl,D2⟩
 go_wp2
 go_end0
 exact ⟨rfl,0,D2.pre ((Zr_ _ _).alloc _)⟩
theorem reckon4 (h:Zg w p s) (n:Int) (x:Nat) (hl:2≤s.nums.length) (hb:s.nums.length≤64):Calls Tryz.prog 167 #[.pointer (some ⟨p.mb,0,none⟩),.agg #[.int .i64 4,.int .i64 n,.float .f64 x]] w (Up w p s ⟨4,n,x⟩):=by
 have D0:Zk (w.alloc (.cells #[.int .i64 4,.int .i64 n,.float .f64 x] 106)) p s (w.alloc (.cells #[.int .i64 4,.int .i64 n,.float .f64 x] 106)):=.same (h.alloc _)
 have hlt:=lt_of_block h.hd
 clear h
 go_enter func167,ntmps167
 go_wp2_with fail
 refine (Xn D0 (show 0 < s.nums.length by omega) (show s.nums.length≤64 by omega)).mono ?_;rintro e w1 ⟨rfl,D1⟩
 go_wp2_with fail
 refine (Xn D1 (show 0 < s.nums.dropLast.length by simp;omega) (show s.nums.dropLast.length≤64 by simp;omega)).mono ?_;rintro e w2 ⟨rfl,D2⟩
 go_wp2_with fail
 refine (Y4 D2 (show s.nums.dropLast.dropLast.length < 64 by simp;omega) (s.top)).mono ?_;rintro e w3 ⟨rfl,D3⟩
 go_wp2_with fail
 refine (Y4 D3 (show (s.nums.dropLast.dropLast++[s.top]).length < 64 by simp;omega) (s.pop.top)).mono ?_;rintro e w4 ⟨rfl,D4⟩
 go_wp2
 go_end0
 exact ⟨rfl,0,D4.pre ((Zr_ _ _).alloc _)⟩
end
section
attribute [local go_sem] Zi
variable {w w' w0:World} {p p':MP} {s s':Zl}
theorem reckon5 (h:Zg w p s) (n:Int) (x:Nat) (hn:0≤n) (hl:n < s.nums.length) (hb:s.nums.length < 64):Calls Tryz.prog 167 #[.pointer (some ⟨p.mb,0,none⟩),.agg #[.int .i64 5,.int .i64 n,.float .f64 x]] w (Up w p s ⟨5,n,x⟩):=by
 obtain ⟨n,rfl⟩:∃ k:Nat,n=k:=⟨n.toNat,by omega⟩
 have D0:Zk (w.alloc (.cells #[.int .i64 5,.int .i64 n,.float .f64 x] 106)) p s (w.alloc (.cells #[.int .i64 5,.int .i64 n,.float .f64 x] 106)):=.same (h.alloc _)
 have hlt:=lt_of_block h.hd
 have r23:=(h.cell 23 (u:=.pointer (some ⟨p.nb,0,none⟩)) rfl).1
 have hp:=fun m=>Vc ((h.nums.mod ((Zr_ [] w).alloc (.cells #[.int .i64 5,.int .i64 n,.float .f64 x] 106)) (by simp) (by simp)).drewN m) n (by omega) (by omega)
 rw [show s.nums.getD (s.nums.length - 1 - n) 0=s.pick n from rfl] at hp
 clear h
 go_enter func167,ntmps167
 go_wp2_with fail
 go_quiet ((go_at_call 175;exact Calls.quiet_of (hp _)))
 have D1:=D0.drewN' nq
 clear hp D0
 go_wp2_with fail
 refine (Y4 D1 (show s.nums.length < 64 by omega) (s.pick n)).mono ?_;rintro e w2 ⟨rfl,D2⟩
 go_wp2
 go_end0
 exact ⟨rfl,0,D2.pre ((Zr_ _ _).alloc _)⟩
theorem reckon6 (h:Zg w p s) (n:Int) (x:Nat) (hn:0≤n) (hl:n < 8) (hb:s.nums.length < 64):Calls Tryz.prog 167 #[.pointer (some ⟨p.mb,0,none⟩),.agg #[.int .i64 6,.int .i64 n,.float .f64 x]] w (Up w p s ⟨6,n,x⟩):=by
 have D0:Zk (w.alloc (.cells #[.int .i64 6,.int .i64 n,.float .f64 x] 106)) p s (w.alloc (.cells #[.int .i64 6,.int .i64 n,.float .f64 x] 106)):=.same (h.alloc _)
 have hlt:=lt_of_block h.hd
 rcases (show n=0∨n=1∨n=2∨n=3∨n=4∨n=5∨n=6∨n=7 by omega) with rfl|rfl|rfl|rfl|rfl|rfl|rfl|rfl
 ·have r:(w.alloc (.cells #[.int .i64 6,.int .i64 0,.float .f64 x] 106)).cell? ⟨p.mb,7,none⟩=some (.float .f64 (s.args 0)):=(D0.cell 7 (u:=.float .f64 (s.args 0)) (fun _=>rfl)).1
  have c1:(w.alloc (.cells #[.int .i64 6,.int .i64 0,.float .f64 x] 106)).cell? ⟨w.heap.size,1,none⟩=some (.int .i64 0):=Za (Zc _ _) rfl
  have z1:Hid (Ze [] w (w.alloc (.cells #[.int .i64 6,.int .i64 0,.float .f64 x] 106))):=Zh_ ((Zr_ _ _).alloc _)
  clear h
  go_enter func167,ntmps167
  go_wp2_with fail
  generalize w.alloc (.cells #[.int .i64 6,.int .i64 0,.float .f64 x] 106)=w1 at *
  go_still_tail 8,(by kernel_rfl)
  go_wp2_with fail
  refine (Y4 D0.drew hb (s.args 0)).mono ?_;rintro e w2 ⟨rfl,D2⟩
  go_wp2
  go_end0
  exact ⟨rfl,0,D2.pre z1.out⟩
 ·have r:(w.alloc (.cells #[.int .i64 6,.int .i64 1,.float .f64 x] 106)).cell? ⟨p.mb,8,none⟩=some (.float .f64 (s.args 1)):=(D0.cell 8 (u:=.float .f64 (s.args 1)) (fun _=>rfl)).1
  have c1:(w.alloc (.cells #[.int .i64 6,.int .i64 1,.float .f64 x] 106)).cell? ⟨w.heap.size,1,none⟩=some (.int .i64 1):=Za (Zc _ _) rfl
  have z1:Hid (Ze [] w (w.alloc (.cells #[.int .i64 6,.int .i64 1,.float .f64 x] 106))):=Zh_ ((Zr_ _ _).alloc _)
  clear h
  go_enter func167,ntmps167
  go_wp2_with fail
  generalize w.alloc (.cells #[.int .i64 6,.int .i64 1,.float .f64 x] 106)=w1 at *
  go_still_tail 8,(by kernel_rfl)
  go_wp2_with fail
  refine (Y4 D0.drew hb (s.args 1)).mono ?_;rintro e w2 ⟨rfl,D2⟩
  go_wp2
  go_end0
  exact ⟨rfl,0,D2.pre z1.out⟩
 ·have r:(w.alloc (.cells #[.int .i64 6,.int .i64 2,.float .f64 x] 106)).cell? ⟨p.mb,9,none⟩=some (.float .f64 (s.args 2)):=(D0.cell 9 (u:=.float .f64 (s.args 2)) (fun _=>rfl)).1
  have c1:(w.alloc (.cells #[.int .i64 6,.int .i64 2,.float .f64 x] 106)).cell? ⟨w.heap.size,1,none⟩=some (.int .i64 2):=Za (Zc _ _) rfl
  have z1:Hid (Ze [] w (w.alloc (.cells #[.int .i64 6,.int .i64 2,.float .f64 x] 106))):=Zh_ ((Zr_ _ _).alloc _)
  clear h
  go_enter func167,ntmps167
  go_wp2_with fail
  generalize w.alloc (.cells #[.int .i64 6,.int .i64 2,.float .f64 x] 106)=w1 at *
  go_still_tail 8,(by kernel_rfl)
  go_wp2_with fail
  refine (Y4 D0.drew hb (s.args 2)).mono ?_;rintro e w2 ⟨rfl,D2⟩
  go_wp2
  go_end0
  exact ⟨rfl,0,D2.pre z1.out⟩
 ·have r:(w.alloc (.cells #[.int .i64 6,.int .i64 3,.float .f64 x] 106)).cell? ⟨p.mb,10,none⟩=some (.float .f64 (s.args 3)):=(D0.cell 10 (u:=.float .f64 (s.args 3)) (fun _=>rfl)).1
  have c1:(w.alloc (.cells #[.int .i64 6,.int .i64 3,.float .f64 x] 106)).cell? ⟨w.heap.size,1,none⟩=some (.int .i64 3):=Za (Zc _ _) rfl
  have z1:Hid (Ze [] w (w.alloc (.cells #[.int .i64 6,.int .i64 3,.float .f64 x] 106))):=Zh_ ((Zr_ _ _).alloc _)
  clear h
  go_enter func167,ntmps167
  go_wp2_with fail
  generalize w.alloc (.cells #[.int .i64 6,.int .i64 3,.float .f64 x] 106)=w1 at *
  go_still_tail 8,(by kernel_rfl)
  go_wp2_with fail
  refine (Y4 D0.drew hb (s.args 3)).mono ?_;rintro e w2 ⟨rfl,D2⟩
  go_wp2
  go_end0
  exact ⟨rfl,0,D2.pre z1.out⟩
 ·have r:(w.alloc (.cells #[.int .i64 6,.int .i64 4,.float .f64 x] 106)).cell? ⟨p.mb,11,none⟩=some (.float .f64 (s.args 4)):=(D0.cell 11 (u:=.float .f64 (s.args 4)) (fun _=>rfl)).1
  have c1:(w.alloc (.cells #[.int .i64 6,.int .i64 4,.float .f64 x] 106)).cell? ⟨w.heap.size,1,none⟩=some (.int .i64 4):=Za (Zc _ _) rfl
  have z1:Hid (Ze [] w (w.alloc (.cells #[.int .i64 6,.int .i64 4,.float .f64 x] 106))):=Zh_ ((Zr_ _ _).alloc _)
  clear h
  go_enter func167,ntmps167
  go_wp2_with fail
  generalize w.alloc (.cells #[.int .i64 6,.int .i64 4,.float .f64 x] 106)=w1 at *
  go_still_tail 8,(by kernel_rfl)
  go_wp2_with fail
  refine (Y4 D0.drew hb (s.args 4)).mono ?_;rintro e w2 ⟨rfl,D2⟩
  go_wp2
  go_end0
  exact ⟨rfl,0,D2.pre z1.out⟩
 ·have r:(w.alloc (.cells #[.int .i64 6,.int .i64 5,.float .f64 x] 106)).cell? ⟨p.mb,12,none⟩=some (.float .f64 (s.args 5)):=(D0.cell 12 (u:=.float .f64 (s.args 5)) (fun _=>rfl)).1
  have c1:(w.alloc (.cells #[.int .i64 6,.int .i64 5,.float .f64 x] 106)).cell? ⟨w.heap.size,1,none⟩=some (.int .i64 5):=Za (Zc _ _) rfl
  have z1:Hid (Ze [] w (w.alloc (.cells #[.int .i64 6,.int .i64 5,.float .f64 x] 106))):=Zh_ ((Zr_ _ _).alloc _)
  clear h
  go_enter func167,ntmps167
  go_wp2_with fail
  generalize w.alloc (.cells #[.int .i64 6,.int .i64 5,.float .f64 x] 106)=w1 at *
  go_still_tail 8,(by kernel_rfl)
  go_wp2_with fail
  refine (Y4 D0.drew hb (s.args 5)).mono ?_;rintro e w2 ⟨rfl,D2⟩
  go_wp2
  go_end0
  exact ⟨rfl,0,D2.pre z1.out⟩
 ·have r:(w.alloc (.cells #[.int .i64 6,.int .i64 6,.float .f64 x] 106)).cell? ⟨p.mb,13,none⟩=some (.float .f64 (s.args 6)):=(D0.cell 13 (u:=.float .f64 (s.args 6)) (fun _=>rfl)).1
  have c1:(w.alloc (.cells #[.int .i64 6,.int .i64 6,.float .f64 x] 106)).cell? ⟨w.heap.size,1,none⟩=some (.int .i64 6):=Za (Zc _ _) rfl
  have z1:Hid (Ze [] w (w.alloc (.cells #[.int .i64 6,.int .i64 6,.float .f64 x] 106))):=Zh_ ((Zr_ _ _).alloc _)
  clear h
  go_enter func167,ntmps167
  go_wp2_with fail
  generalize w.alloc (.cells #[.int .i64 6,.int .i64 6,.float .f64 x] 106)=w1 at *
  go_still_tail 8,(by kernel_rfl)
  go_wp2_with fail
  refine (Y4 D0.drew hb (s.args 6)).mono ?_;rintro e w2 ⟨rfl,D2⟩
  go_wp2
  go_end0
  exact ⟨rfl,0,D2.pre z1.out⟩
 ·have r:(w.alloc (.cells #[.int .i64 6,.int .i64 7,.float .f64 x] 106)).cell? ⟨p.mb,14,none⟩=some (.float .f64 (s.args 7)):=(D0.cell 14 (u:=.float .f64 (s.args 7)) (fun _=>rfl)).1
  have c1:(w.alloc (.cells #[.int .i64 6,.int .i64 7,.float .f64 x] 106)).cell? ⟨w.heap.size,1,none⟩=some (.int .i64 7):=Za (Zc _ _) rfl
  have z1:Hid (Ze [] w (w.alloc (.cells #[.int .i64 6,.int .i64 7,.float .f64 x] 106))):=Zh_ ((Zr_ _ _).alloc _)
  clear h
  go_enter func167,ntmps167
  go_wp2_with fail
  generalize w.alloc (.cells #[.int .i64 6,.int .i64 7,.float .f64 x] 106)=w1 at *
  go_still_tail 8,(by kernel_rfl)
  go_wp2_with fail
  refine (Y4 D0.drew hb (s.args 7)).mono ?_;rintro e w2 ⟨rfl,D2⟩
  go_wp2
  go_end0
  exact ⟨rfl,0,D2.pre z1.out⟩
theorem reckon7 (h:Zg w p s) (n:Int) (x:Nat) (hn:0≤n) (hl:n < 8) (hb:s.nums.length < 64):Calls Tryz.prog 167 #[.pointer (some ⟨p.mb,0,none⟩),.agg #[.int .i64 7,.int .i64 n,.float .f64 x]] w (Up w p s ⟨7,n,x⟩):=by
 have D0:Zk (w.alloc (.cells #[.int .i64 7,.int .i64 n,.float .f64 x] 106)) p s (w.alloc (.cells #[.int .i64 7,.int .i64 n,.float .f64 x] 106)):=.same (h.alloc _)
 have hlt:=lt_of_block h.hd
 rcases (show n=0∨n=1∨n=2∨n=3∨n=4∨n=5∨n=6∨n=7 by omega) with rfl|rfl|rfl|rfl|rfl|rfl|rfl|rfl
 ·have r:(w.alloc (.cells #[.int .i64 7,.int .i64 0,.float .f64 x] 106)).cell? ⟨p.mb,15,none⟩=some (.float .f64 (s.locals 0)):=(D0.cell 15 (u:=.float .f64 (s.locals 0)) (fun _=>rfl)).1
  have c1:(w.alloc (.cells #[.int .i64 7,.int .i64 0,.float .f64 x] 106)).cell? ⟨w.heap.size,1,none⟩=some (.int .i64 0):=Za (Zc _ _) rfl
  have z1:Hid (Ze [] w (w.alloc (.cells #[.int .i64 7,.int .i64 0,.float .f64 x] 106))):=Zh_ ((Zr_ _ _).alloc _)
  clear h
  go_enter func167,ntmps167
  go_wp2_with fail
  generalize w.alloc (.cells #[.int .i64 7,.int .i64 0,.float .f64 x] 106)=w1 at *
  go_still_tail 8,(by kernel_rfl)
  go_wp2_with fail
  refine (Y4 D0.drew hb (s.locals 0)).mono ?_;rintro e w2 ⟨rfl,D2⟩
  go_wp2
  go_end0
  exact ⟨rfl,0,D2.pre z1.out⟩
 ·have r:(w.alloc (.cells #[.int .i64 7,.int .i64 1,.float .f64 x] 106)).cell? ⟨p.mb,16,none⟩=some (.float .f64 (s.locals 1)):=(D0.cell 16 (u:=.float .f64 (s.locals 1)) (fun _=>rfl)).1
  have c1:(w.alloc (.cells #[.int .i64 7,.int .i64 1,.float .f64 x] 106)).cell? ⟨w.heap.size,1,none⟩=some (.int .i64 1):=Za (Zc _ _) rfl
  have z1:Hid (Ze [] w (w.alloc (.cells #[.int .i64 7,.int .i64 1,.float .f64 x] 106))):=Zh_ ((Zr_ _ _).alloc _)
  clear h
  go_enter func167,ntmps167
  go_wp2_with fail
  generalize w.alloc (.cells #[.int .i64 7,.int .i64 1,.float .f64 x] 106)=w1 at *
  go_still_tail 8,(by kernel_rfl)
  go_wp2_with fail
  refine (Y4 D0.drew hb (s.locals 1)).mono ?_;rintro e w2 ⟨rfl,D2⟩
  go_wp2
  go_end0
  exact ⟨rfl,0,D2.pre z1.out⟩
 ·have r:(w.alloc (.cells #[.int .i64 7,.int .i64 2,.float .f64 x] 106)).cell? ⟨p.mb,17,none⟩=some (.float .f64 (s.locals 2)):=(D0.cell 17 (u:=.float .f64 (s.locals 2)) (fun _=>rfl)).1
  have c1:(w.alloc (.cells #[.int .i64 7,.int .i64 2,.float .f64 x] 106)).cell? ⟨w.heap.size,1,none⟩=some (.int .i64 2):=Za (Zc _ _) rfl
  have z1:Hid (Ze [] w (w.alloc (.cells #[.int .i64 7,.int .i64 2,.float .f64 x] 106))):=Zh_ ((Zr_ _ _).alloc _)
  clear h
  go_enter func167,ntmps167
  go_wp2_with fail
  generalize w.alloc (.cells #[.int .i64 7,.int .i64 2,.float .f64 x] 106)=w1 at *
  go_still_tail 8,(by kernel_rfl)
  go_wp2_with fail
  refine (Y4 D0.drew hb (s.locals 2)).mono ?_;rintro e w2 ⟨rfl,D2⟩
  go_wp2
  go_end0
  exact ⟨rfl,0,D2.pre z1.out⟩
 ·have r:(w.alloc (.cells #[.int .i64 7,.int .i64 3,.float .f64 x] 106)).cell? ⟨p.mb,18,none⟩=some (.float .f64 (s.locals 3)):=(D0.cell 18 (u:=.float .f64 (s.locals 3)) (fun _=>rfl)).1
  have c1:(w.alloc (.cells #[.int .i64 7,.int .i64 3,.float .f64 x] 106)).cell? ⟨w.heap.size,1,none⟩=some (.int .i64 3):=Za (Zc _ _) rfl
  have z1:Hid (Ze [] w (w.alloc (.cells #[.int .i64 7,.int .i64 3,.float .f64 x] 106))):=Zh_ ((Zr_ _ _).alloc _)
  clear h
  go_enter func167,ntmps167
  go_wp2_with fail
  generalize w.alloc (.cells #[.int .i64 7,.int .i64 3,.float .f64 x] 106)=w1 at *
  go_still_tail 8,(by kernel_rfl)
  go_wp2_with fail
  refine (Y4 D0.drew hb (s.locals 3)).mono ?_;rintro e w2 ⟨rfl,D2⟩
  go_wp2
  go_end0
  exact ⟨rfl,0,D2.pre z1.out⟩
 ·have r:(w.alloc (.cells #[.int .i64 7,.int .i64 4,.float .f64 x] 106)).cell? ⟨p.mb,19,none⟩=some (.float .f64 (s.locals 4)):=(D0.cell 19 (u:=.float .f64 (s.locals 4)) (fun _=>rfl)).1
  have c1:(w.alloc (.cells #[.int .i64 7,.int .i64 4,.float .f64 x] 106)).cell? ⟨w.heap.size,1,none⟩=some (.int .i64 4):=Za (Zc _ _) rfl
  have z1:Hid (Ze [] w (w.alloc (.cells #[.int .i64 7,.int .i64 4,.float .f64 x] 106))):=Zh_ ((Zr_ _ _).alloc _)
  clear h
  go_enter func167,ntmps167
  go_wp2_with fail
  generalize w.alloc (.cells #[.int .i64 7,.int .i64 4,.float .f64 x] 106)=w1 at *
  go_still_tail 8,(by kernel_rfl)
  go_wp2_with fail
  refine (Y4 D0.drew hb (s.locals 4)).mono ?_;rintro e w2 ⟨rfl,D2⟩
  go_wp2
  go_end0
  exact ⟨rfl,0,D2.pre z1.out⟩
 ·have r:(w.alloc (.cells #[.int .i64 7,.int .i64 5,.float .f64 x] 106)).cell? ⟨p.mb,20,none⟩=some (.float .f64 (s.locals 5)):=(D0.cell 20 (u:=.float .f64 (s.locals 5)) (fun _=>rfl)).1
  have c1:(w.alloc (.cells #[.int .i64 7,.int .i64 5,.float .f64 x] 106)).cell? ⟨w.heap.size,1,none⟩=some (.int .i64 5):=Za (Zc _ _) rfl
  have z1:Hid (Ze [] w (w.alloc (.cells #[.int .i64 7,.int .i64 5,.float .f64 x] 106))):=Zh_ ((Zr_ _ _).alloc _)
  clear h
  go_enter func167,ntmps167
  go_wp2_with fail
  generalize w.alloc (.cells #[.int .i64 7,.int .i64 5,.float .f64 x] 106)=w1 at *
  go_still_tail 8,(by kernel_rfl)
  go_wp2_with fail
  refine (Y4 D0.drew hb (s.locals 5)).mono ?_;rintro e w2 ⟨rfl,D2⟩
  go_wp2
  go_end0
  exact ⟨rfl,0,D2.pre z1.out⟩
 ·have r:(w.alloc (.cells #[.int .i64 7,.int .i64 6,.float .f64 x] 106)).cell? ⟨p.mb,21,none⟩=some (.float .f64 (s.locals 6)):=(D0.cell 21 (u:=.float .f64 (s.locals 6)) (fun _=>rfl)).1
  have c1:(w.alloc (.cells #[.int .i64 7,.int .i64 6,.float .f64 x] 106)).cell? ⟨w.heap.size,1,none⟩=some (.int .i64 6):=Za (Zc _ _) rfl
  have z1:Hid (Ze [] w (w.alloc (.cells #[.int .i64 7,.int .i64 6,.float .f64 x] 106))):=Zh_ ((Zr_ _ _).alloc _)
  clear h
  go_enter func167,ntmps167
  go_wp2_with fail
  generalize w.alloc (.cells #[.int .i64 7,.int .i64 6,.float .f64 x] 106)=w1 at *
  go_still_tail 8,(by kernel_rfl)
  go_wp2_with fail
  refine (Y4 D0.drew hb (s.locals 6)).mono ?_;rintro e w2 ⟨rfl,D2⟩
  go_wp2
  go_end0
  exact ⟨rfl,0,D2.pre z1.out⟩
 ·have r:(w.alloc (.cells #[.int .i64 7,.int .i64 7,.float .f64 x] 106)).cell? ⟨p.mb,22,none⟩=some (.float .f64 (s.locals 7)):=(D0.cell 22 (u:=.float .f64 (s.locals 7)) (fun _=>rfl)).1
  have c1:(w.alloc (.cells #[.int .i64 7,.int .i64 7,.float .f64 x] 106)).cell? ⟨w.heap.size,1,none⟩=some (.int .i64 7):=Za (Zc _ _) rfl
  have z1:Hid (Ze [] w (w.alloc (.cells #[.int .i64 7,.int .i64 7,.float .f64 x] 106))):=Zh_ ((Zr_ _ _).alloc _)
  clear h
  go_enter func167,ntmps167
  go_wp2_with fail
  generalize w.alloc (.cells #[.int .i64 7,.int .i64 7,.float .f64 x] 106)=w1 at *
  go_still_tail 8,(by kernel_rfl)
  go_wp2_with fail
  refine (Y4 D0.drew hb (s.locals 7)).mono ?_;rintro e w2 ⟨rfl,D2⟩
  go_wp2
  go_end0
  exact ⟨rfl,0,D2.pre z1.out⟩
end
end Go.Proofs.YtkhonmhnchdpkaaGreat
