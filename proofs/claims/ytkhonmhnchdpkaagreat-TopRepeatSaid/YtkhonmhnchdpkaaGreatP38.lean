/- A part of the proof; no condition. -/
import Derived.Test.YtkhonmhnchdpkaaGreatP37
set_option maxRecDepth 100000
set_option maxHeartbeats 40000000
namespace Go.Proofs.YtkhonmhnchdpkaaGreat
open Go.RowKit _root_.Go.Proofs.Tryz
section
def V3 (i:Xf):Bool:=!(i.op==9)&&(!(i.op==10) || (i.n==1 || i.n==2 || i.n==3 || i.n==4 || i.n==8))
theorem two_v {n:Int} (h:(n==1 || n==2 || n==3 || n==4 || n==8)=true) (x y v:Nat):Cf n x y v=Cf n x y 0:=by
 simp only [Bool.or_eq_true,beq_iff_eq] at h;unfold Cf;rcases h with (((h|h)|h)|h)|h <;> subst h <;> rfl
theorem reckon_v {i:Xf} (h:V3 i=true) (s:Zl) (v:Nat):s.reckon v i=s.reckon 0 i:=by
 unfold V3 at h;simp only [Bool.and_eq_true,Bool.not_eq_true',beq_eq_false_iff_ne,ne_eq] at h;obtain ⟨h9,h10⟩:=h;unfold Zl.reckon;rw [if_neg h9,if_neg h9]
 by_cases e:i.op=10
 ·have h10':(i.n==1 || i.n==2 || i.n==3 || i.n==4 || i.n==8)=true:=by simpa [e] using h10
  rw [two_v h10' _ _ v]
 ·rw [if_neg e,if_neg e]
theorem doE_v {i:Xf} (h:V3 i=true) (s:Zl) (v:Nat):s.doE v i=s.doE 0 i:=by
 unfold Zl.doE;rw [reckon_v h s v]
theorem at_exact {s:Zl} (h:s.code.all V3=true):V3 s.at=true:=by
 unfold Zl.at;rw [List.getD_eq_getElem?_getD];rcases Nat.lt_or_ge s.place.toNat s.code.length with hl|hl
 ·rw [List.getElem?_eq_getElem hl];exact List.all_eq_true.1 h _ (List.getElem_mem hl)
 ·rw [List.getElem?_eq_none hl]
  decide
theorem mach_v {s:Zl} (h:s.code.all V3=true) (v:Nat):s.step v=s.step 0:=by
 unfold Zl.step Zl.go;rw [doE_v (at_exact h) _ v]
theorem Dx (s:Zl) (v:Nat):(s.step v).1.code=s.code:=by
 cases hw:s.waits with
 |true=>
  unfold Zl.step;rw [if_pos hw]
 |false=>exact (Qz v hw).code
theorem wri_v {x:Z2} (h:x.m.code.all V3=true) (s:Zh) (v:Nat):x.step s v=x.step s 0:=by
 unfold Z2.step Z2.runs;rw [mach_v h v]
theorem rea_v {x:Yg} (h:x.m.code.all V3=true) (s:Zh) (v:Nat):x.step s v=x.step s 0:=by
 unfold Yg.step Yg.run;rw [mach_v h v]
theorem wri_code (x:Z2) (s:Zh) (v:Nat):(x.step s v).1.m.code=x.m.code:=by
 have hm:=Dx x.m v;unfold Z2.step;split
 ·rfl
 ·split
  ·rfl
  ·split
   ·rfl
   ·split
    ·unfold Z2.runs;simp only;split
     ·exact hm
     ·split
      ·exact hm
      ·split
       ·exact hm
       ·split
        ·exact hm
        ·exact hm
    ·split
     ·unfold Z2.scans;split <;> rfl
     ·split
      ·unfold Z2.writes Z2.ended Z2.wrote;simp only;split <;> split <;> rfl
      ·split
       ·rfl
       ·rfl
theorem rea_code (x:Yg) (s:Zh) (v:Nat):(x.step s v).1.m.code=x.m.code:=by
 have hm:=Dx x.m v;have hg:∀ (y:Yg) (r:Y1),(y.goOn r s).1.m.code=y.m.code:=by
  intro y r;unfold Yg.goOn;simp only;split <;> rfl
 unfold Yg.step;split
 ·rfl
 ·split
  ·unfold Yg.run;split
   ·exact hg _ _
   ·split
    ·rw [hg];exact hm
    ·exact hm
  ·rfl
theorem go_v {g:Qw} (h:g.m.code.all V3=true) (s:Zh) (v:Nat):g.step s v=g.step s 0:=by
 cases g with
 |wr x=>unfold Qw.step;simp only;rw [wri_v h s v]
 |rd x=>unfold Qw.step;simp only;rw [rea_v h s v]
theorem go_code (g:Qw) (s:Zh) (v:Nat):(g.step s v).1.m.code=g.m.code:=by
 cases g with
 |wr x=>exact wri_code x s v
 |rd x=>exact rea_code x s v
structure Zq.Exact (s:Zq):Prop where
 p:∀ p∈s.progs,p.2.all V3=true
 x:∀ x∈s.txs,∀ g,x.g=some g->g.m.code.all V3=true
theorem Zq.Exact.ready {s:Zq} (h:s.Exact) (t:Nat):(s.ready t).Exact:=by
 unfold Zq.ready;split
 ·refine ⟨h.p,λ x hx g hg=>?_⟩;rcases List.mem_append.1 (show x∈s.txs++[_] from hx) with hx|hx
  ·exact h.x x hx g hg
  ·simp at hx;subst hx;simp at hg;subst hg;have hp:∀ n,(Zq.prog s n).2.all V3=true:=by
    intro n;unfold Zq.prog;rcases Nat.lt_or_ge n.toNat s.progs.length with hl|hl
    ·exact h.p _ (Kl hl)
    ·rw [List.getD_eq_getElem?_getD,List.getElem?_eq_none hl];rfl
   unfold Zq.newG;split
   ·exact hp _
   ·exact hp _
 ·exact ⟨h.p,h.x⟩
theorem Zq.Exact.fire_v {s:Zq} (h:s.Exact) (t v:Nat):s.fire t v=s.fire t 0:=by
 unfold Zq.fire;split
 ·rfl
 ·split
  ·rename_i raw g hx;rw [go_v (h.x _ (List.mem_of_getElem? hx) g rfl) _ v]
  ·rfl
theorem Zq.Exact.fire {s:Zq} (h:s.Exact) (t v:Nat):(s.fire t v).Exact:=by
 unfold Zq.fire;split
 ·exact h
 ·split
  ·rename_i i hi raw g hx;have hg:=go_code g s.mem.opened v;have hk:=h.x _ (List.mem_of_getElem? hx) g rfl;split
   ·refine ⟨h.p,λ x hx' g' hg'=>?_⟩;rcases List.mem_or_eq_of_mem_set hx' with hm|e
    ·exact h.x x hm g' hg'
    ·subst e;cases hg'
   ·refine ⟨h.p,λ x hx' g' hg'=>?_⟩;rcases List.mem_or_eq_of_mem_set hx' with hm|e
    ·exact h.x x hm g' hg'
    ·subst e;simp only [Option.some.injEq] at hg';subst hg';rw [hg];exact hk
  ·exact h
theorem Zq.Exact.step {s:Zq} (h:s.Exact) (t v:Nat):s.step t v=s.step t 0/\(s.step t v).Exact:=by
 unfold Zq.step;split
 ·exact ⟨rfl,h⟩
 ·exact ⟨(h.ready t).fire_v t v,(h.ready t).fire t v⟩
def runS (s:Zq) (l:List Nat):Zq:=l.foldl (λ s t=>s.step t 0) s
theorem Zq.Exact.runs {s r:Zq} {l:List Nat} (h:s.Exact) (hr:Vv s l r):r=runS s l:=by
 induction hr with
 |nil s=>rfl
 |@cons s r t l v hq ih=>
  have hs:=h.step t v;rw [ih hs.2];unfold runS;rw [List.foldl_cons,hs.1]
def Td:List Xf:=[⟨1,0,0⟩,⟨16,0,0⟩,⟨6,0,0⟩,⟨10,1,0⟩,⟨1,0,0⟩,⟨17,0,0⟩,⟨1,0,4607182418800017408⟩,⟨16,0,0⟩,⟨6,0,0⟩,⟨10,1,0⟩,⟨1,0,4607182418800017408⟩,⟨17,0,0⟩,⟨20,0,0⟩]
def Te:List Xf:=[⟨1,0,0⟩,⟨16,0,0⟩,⟨18,0,0⟩,⟨1,0,4607182418800017408⟩,⟨16,0,0⟩,⟨18,0,0⟩,⟨20,0,0⟩]
def Fw:List (Int×List Xf):=[(2,Td),(1,Te)]
def R3:List (List (Int×List Nat)):=[[(0,[4617315517961601024])],[(1,[])],[(0,[4611686018427387904])]]
def Jv:Zq:=U1 2 3 30 2 [] Fw R3
def Da (n:Nat) (l:List Nat):List Nat:=(List.replicate n l).flatten
def liveL:List Nat:=[1,1,1,1,1,1]++Da 60 [0,2,0]++Da 60 [1,2]
def R4 (s:Zq):Bool:=s.over&&s.state==[4619567317775286272,4619567317775286272]&&s.view.length==3&&((s.view.getD 0 Qc).out==[0,0])&&((s.view.getD 0 Qc).mark==0)&&((s.view.getD 1 Qc).number==1)&&((s.view.getD 2 Qc).number==2)
theorem Wn:R4 (runS Jv liveL)=true:=by decide+kernel
theorem Lr:Jv.Exact:=by
 refine ⟨?_,λ x hx=>by cases hx⟩;intro p hp;have hp:p∈Fw:=hp;simp only [Fw,List.mem_cons,List.not_mem_nil,or_false] at hp;rcases hp with rfl|rfl <;> decide
theorem Wm {r:Zq} (h:Vv Jv liveL r):R4 r=true:=by
 rw [Lr.runs h];exact Wn
end
section
variable {w w':World}
structure Ka (w:World) (v:Value) (c0 c1 c2 c3:Int) (start:List Nat) (progs:List (Int×List Xf)) (cs:List (List (Int×List Nat))):Prop where
 f:∃ vs vp vt,v=.agg #[.int .i64 c0,.int .i64 c1,.int .i64 c2,.int .i64 c3,vs,vp,vt]/\FX w vs start/\Gp w vp progs/\Ky w vt cs
theorem Kn {z n:Nat} {c:Array Value} {ty:TypeId} {g:Nat} {xs:List Value} (h:w.heap[g]? =some (.cells c ty (0,0))) (hx:c=xs.toArray) (hl:xs.length=n * z):U4 w z (.slice (some ⟨g,0,none⟩) n n) n xs:=by
 subst hx;refine ⟨hl,.inr ⟨⟨g,0,none⟩,n,rfl,λ j u hu=>⟨lt_of_block h,?_⟩⟩⟩;have e:(⟨g,0,none⟩:Addr).add j=⟨g,j,none⟩:=by have:=Br g 0 j;rw [Nat.zero_add] at this;exact this
 rw [e];exact Za h (by rw [<-hu];simp)
theorem pair_c:Calls Tryz.prog 21 #[] w λ e w'=>∃ v,e=.returned v/\Ka w' v 2 3 30 2 [] Fw R3/\Ze [] w w':=by
 go_enter func21,ntmps21;go_upto_region 2 with fail;generalize hw:((w.alloc _).alloc _).alloc _=w1;obtain ⟨n0,hn0⟩:∃ n,n=w.heap.size:=⟨_,rfl⟩;have B0:w1.heap[n0]? =some (.cells #[.int .i64 0,.int .i64 0,.int .i64 0,.int .i64 0,.slice none 0 0,.slice none 0 0,.slice none 0 0] 28 (0,0)):=by rw [<-hw,hn0];exact Zf _ (Zf _ (Zc _ _))
 have B1:w1.heap[n0+1]? =some (.cells (Yk Td).toArray 106 (0,0)):=by
  rw [<-hw,hn0];have:=Zc (w.alloc (.cells #[.int .i64 0,.int .i64 0,.int .i64 0,.int .i64 0,.slice none 0 0,.slice none 0 0,.slice none 0 0] 28)) (.cells (Yk Td).toArray 106);rw [World.size_alloc] at this;exact Zf _ this
 have B2:w1.heap[n0+1+1]? =some (.cells #[.int .i64 2,.slice (some ⟨n0+1,0,none⟩) 13 13] 110 (0,0)):=by
  rw [<-hw,hn0];have:=Zc ((w.alloc (.cells #[.int .i64 0,.int .i64 0,.int .i64 0,.int .i64 0,.slice none 0 0,.slice none 0 0,.slice none 0 0] 28)).alloc (.cells (Yk Td).toArray 106)) (.cells #[.int .i64 2,.slice (some ⟨w.heap.size+1,0,none⟩) 13 13] 110);rw [World.size_alloc,World.size_alloc] at this;exact this
 have M1:Ze [] w w1:=by rw [<-hw];exact (((Zr_ _ _).alloc _).alloc _).alloc _
 have HB0:=Zh_ B0;have HB1:=Zh_ B1;have HB2:=Zh_ B2;have HM1:=Zh_ M1;rw [<-hn0];have HN0:=Zh_ hn0;clear hw hn0 B0 B1 B2 M1;go_upto_region 3 with fail;generalize hw:(w1.alloc _).alloc _=w2;obtain ⟨n3,hn3⟩:∃ n,n=w1.heap.size:=⟨_,rfl⟩;have B3:w2.heap[n3]? =some (.cells (Yk Te).toArray 106 (0,0)):=by
  rw [<-hw,hn3];exact Zf _ (Zc w1 (.cells (Yk Te).toArray 106))
 have B4:w2.heap[n3+1]? =some (.cells #[.int .i64 1,.slice (some ⟨n3,0,none⟩) 7 7] 110 (0,0)):=by
  rw [<-hw,hn3];have:=Zc (w1.alloc (.cells (Yk Te).toArray 106)) (.cells #[.int .i64 1,.slice (some ⟨w1.heap.size,0,none⟩) 7 7] 110);rw [World.size_alloc] at this;exact this
 have M2:Ze [] w1 w2:=by rw [<-hw];exact ((Zr_ _ _).alloc _).alloc _
 have C0:=M2.at HB0.out (by simp);have HC0:=Zh_ C0;have HC1:=Zh_ (M2.at HB1.out (by simp));have C2:=M2.at HB2.out (by simp);have HM2:=Zh_ (HM1.out.trans M2);have HB3:=Zh_ B3;have HL0:=Zh_ (show n0 < n3 by rw [hn3];exact lt_of_block HB0.out);rw [<-hn3];have HN3:=Zh_ hn3;have p0:=Za (i:=0) C2 rfl;have p1:=Za (i:=1) C2 rfl;have q0:=Za (i:=0) B4 rfl;have q1:=Za (i:=1) B4 rfl;have D0:=Zf (.cells #[.slice (some ⟨w2.heap.size+1+1,0,none⟩) 1 1,.slice (some ⟨w2.heap.size+1+1+1,0,none⟩) 1 1,.slice (some ⟨w2.heap.size+1+1+1+1+1,0,none⟩) 1 1] 61) (Zf (.cells #[.int .i64 0,.slice (some ⟨w2.heap.size+1+1+1+1,0,none⟩) 1 1] 63) (Zf (.cells #[.float .f64 4611686018427387904] 51) (Zf (.cells #[.int .i64 1,.slice none 0 0] 63) (Zf (.cells #[.int .i64 0,.slice (some ⟨w2.heap.size+1,0,none⟩) 1 1] 63) (Zf (.cells #[.float .f64 4617315517961601024] 51) (Zf (.cells #[.int .i64 2,.slice (some ⟨n0+1,0,none⟩) 13 13,.int .i64 1,.slice (some ⟨n3,0,none⟩) 7 7] 110) (C0)))))));have HD0:=Zh_ D0;have y0:=Za (i:=0) D0 rfl;have f0:=Zb (i:=0) D0;have y1:=Za (i:=1) D0 rfl;have f1:=Zb (i:=1) D0;have y2:=Za (i:=2) D0 rfl;have f2:=Zb (i:=2) D0;have y3:=Za (i:=3) D0 rfl;have f3:=Zb (i:=3) D0;have y4:=Za (i:=4) D0 rfl;have f4:=Zb (i:=4) D0;have y5:=Za (i:=5) D0 rfl;have f5:=Zb (i:=5) D0;have y6:=Za (i:=6) D0 rfl;have f6:=Zb (i:=6) D0;clear hw hn3 B3 B4 M2 C0 C2 HB0 HB1 HB2 HM1 D0;go_wp2_with fail;have hb:=Zd (i:=6) (.slice (some ⟨w2.heap.size+1+1+1+1+1+1,0,none⟩) 3 3) (Zd (i:=5) (.slice (some ⟨w2.heap.size,0,none⟩) 2 2) (Zd (i:=4) (.slice none 0 0) (Zd (i:=3) (.int .i64 2) (Zd (i:=2) (.int .i64 30) (Zd (i:=1) (.int .i64 3) (Zd (i:=0) (.int .i64 2) (HD0.out)))))));have MW:Ze [] w (((((((w2.alloc (.cells #[.int .i64 2,.slice (some ⟨n0+1,0,none⟩) 13 13,.int .i64 1,.slice (some ⟨n3,0,none⟩) 7 7] 110)).alloc (.cells #[.float .f64 4617315517961601024] 51)).alloc (.cells #[.int .i64 0,.slice (some ⟨w2.heap.size+1,0,none⟩) 1 1] 63)).alloc (.cells #[.int .i64 1,.slice none 0 0] 63)).alloc (.cells #[.float .f64 4611686018427387904] 51)).alloc (.cells #[.int .i64 0,.slice (some ⟨w2.heap.size+1+1+1+1,0,none⟩) 1 1] 63)).alloc (.cells #[.slice (some ⟨w2.heap.size+1+1,0,none⟩) 1 1,.slice (some ⟨w2.heap.size+1+1+1,0,none⟩) 1 1,.slice (some ⟨w2.heap.size+1+1+1+1+1,0,none⟩) 1 1] 61)):=(((((((HM2.out).alloc _).alloc _).alloc _).alloc _).alloc _).alloc _).alloc _;have hn:w.heap.size<=n0:=Nat.le_of_eq HN0.out.symm;have A0:(((((((w2.alloc (.cells #[.int .i64 2,.slice (some ⟨n0+1,0,none⟩) 13 13,.int .i64 1,.slice (some ⟨n3,0,none⟩) 7 7] 110)).alloc (.cells #[.float .f64 4617315517961601024] 51)).alloc (.cells #[.int .i64 0,.slice (some ⟨w2.heap.size+1,0,none⟩) 1 1] 63)).alloc (.cells #[.int .i64 1,.slice none 0 0] 63)).alloc (.cells #[.float .f64 4611686018427387904] 51)).alloc (.cells #[.int .i64 0,.slice (some ⟨w2.heap.size+1+1+1+1,0,none⟩) 1 1] 63)).alloc (.cells #[.slice (some ⟨w2.heap.size+1+1,0,none⟩) 1 1,.slice (some ⟨w2.heap.size+1+1+1,0,none⟩) 1 1,.slice (some ⟨w2.heap.size+1+1+1+1+1,0,none⟩) 1 1] 61)).heap[w2.heap.size]? =some (.cells #[.int .i64 2,.slice (some ⟨n0+1,0,none⟩) 13 13,.int .i64 1,.slice (some ⟨n3,0,none⟩) 7 7] 110 (0,0)):=by
  have this:=Zc w2 (.cells #[.int .i64 2,.slice (some ⟨n0+1,0,none⟩) 13 13,.int .i64 1,.slice (some ⟨n3,0,none⟩) 7 7] 110);exact Zf _ (Zf _ (Zf _ (Zf _ (Zf _ (Zf _ (this))))))
 have A1:(((((((w2.alloc (.cells #[.int .i64 2,.slice (some ⟨n0+1,0,none⟩) 13 13,.int .i64 1,.slice (some ⟨n3,0,none⟩) 7 7] 110)).alloc (.cells #[.float .f64 4617315517961601024] 51)).alloc (.cells #[.int .i64 0,.slice (some ⟨w2.heap.size+1,0,none⟩) 1 1] 63)).alloc (.cells #[.int .i64 1,.slice none 0 0] 63)).alloc (.cells #[.float .f64 4611686018427387904] 51)).alloc (.cells #[.int .i64 0,.slice (some ⟨w2.heap.size+1+1+1+1,0,none⟩) 1 1] 63)).alloc (.cells #[.slice (some ⟨w2.heap.size+1+1,0,none⟩) 1 1,.slice (some ⟨w2.heap.size+1+1+1,0,none⟩) 1 1,.slice (some ⟨w2.heap.size+1+1+1+1+1,0,none⟩) 1 1] 61)).heap[w2.heap.size+1]? =some (.cells #[.float .f64 4617315517961601024] 51 (0,0)):=by
  have this:=Zc (w2.alloc (.cells #[.int .i64 2,.slice (some ⟨n0+1,0,none⟩) 13 13,.int .i64 1,.slice (some ⟨n3,0,none⟩) 7 7] 110)) (.cells #[.float .f64 4617315517961601024] 51);rw [World.size_alloc] at this;exact Zf _ (Zf _ (Zf _ (Zf _ (Zf _ (this)))))
 have A2:(((((((w2.alloc (.cells #[.int .i64 2,.slice (some ⟨n0+1,0,none⟩) 13 13,.int .i64 1,.slice (some ⟨n3,0,none⟩) 7 7] 110)).alloc (.cells #[.float .f64 4617315517961601024] 51)).alloc (.cells #[.int .i64 0,.slice (some ⟨w2.heap.size+1,0,none⟩) 1 1] 63)).alloc (.cells #[.int .i64 1,.slice none 0 0] 63)).alloc (.cells #[.float .f64 4611686018427387904] 51)).alloc (.cells #[.int .i64 0,.slice (some ⟨w2.heap.size+1+1+1+1,0,none⟩) 1 1] 63)).alloc (.cells #[.slice (some ⟨w2.heap.size+1+1,0,none⟩) 1 1,.slice (some ⟨w2.heap.size+1+1+1,0,none⟩) 1 1,.slice (some ⟨w2.heap.size+1+1+1+1+1,0,none⟩) 1 1] 61)).heap[w2.heap.size+1+1]? =some (.cells #[.int .i64 0,.slice (some ⟨w2.heap.size+1,0,none⟩) 1 1] 63 (0,0)):=by
  have this:=Zc ((w2.alloc (.cells #[.int .i64 2,.slice (some ⟨n0+1,0,none⟩) 13 13,.int .i64 1,.slice (some ⟨n3,0,none⟩) 7 7] 110)).alloc (.cells #[.float .f64 4617315517961601024] 51)) (.cells #[.int .i64 0,.slice (some ⟨w2.heap.size+1,0,none⟩) 1 1] 63);rw [World.size_alloc,World.size_alloc] at this;exact Zf _ (Zf _ (Zf _ (Zf _ (this))))
 have A3:(((((((w2.alloc (.cells #[.int .i64 2,.slice (some ⟨n0+1,0,none⟩) 13 13,.int .i64 1,.slice (some ⟨n3,0,none⟩) 7 7] 110)).alloc (.cells #[.float .f64 4617315517961601024] 51)).alloc (.cells #[.int .i64 0,.slice (some ⟨w2.heap.size+1,0,none⟩) 1 1] 63)).alloc (.cells #[.int .i64 1,.slice none 0 0] 63)).alloc (.cells #[.float .f64 4611686018427387904] 51)).alloc (.cells #[.int .i64 0,.slice (some ⟨w2.heap.size+1+1+1+1,0,none⟩) 1 1] 63)).alloc (.cells #[.slice (some ⟨w2.heap.size+1+1,0,none⟩) 1 1,.slice (some ⟨w2.heap.size+1+1+1,0,none⟩) 1 1,.slice (some ⟨w2.heap.size+1+1+1+1+1,0,none⟩) 1 1] 61)).heap[w2.heap.size+1+1+1]? =some (.cells #[.int .i64 1,.slice none 0 0] 63 (0,0)):=by
  have this:=Zc (((w2.alloc (.cells #[.int .i64 2,.slice (some ⟨n0+1,0,none⟩) 13 13,.int .i64 1,.slice (some ⟨n3,0,none⟩) 7 7] 110)).alloc (.cells #[.float .f64 4617315517961601024] 51)).alloc (.cells #[.int .i64 0,.slice (some ⟨w2.heap.size+1,0,none⟩) 1 1] 63)) (.cells #[.int .i64 1,.slice none 0 0] 63);rw [World.size_alloc,World.size_alloc,World.size_alloc] at this;exact Zf _ (Zf _ (Zf _ (this)))
 have A4:(((((((w2.alloc (.cells #[.int .i64 2,.slice (some ⟨n0+1,0,none⟩) 13 13,.int .i64 1,.slice (some ⟨n3,0,none⟩) 7 7] 110)).alloc (.cells #[.float .f64 4617315517961601024] 51)).alloc (.cells #[.int .i64 0,.slice (some ⟨w2.heap.size+1,0,none⟩) 1 1] 63)).alloc (.cells #[.int .i64 1,.slice none 0 0] 63)).alloc (.cells #[.float .f64 4611686018427387904] 51)).alloc (.cells #[.int .i64 0,.slice (some ⟨w2.heap.size+1+1+1+1,0,none⟩) 1 1] 63)).alloc (.cells #[.slice (some ⟨w2.heap.size+1+1,0,none⟩) 1 1,.slice (some ⟨w2.heap.size+1+1+1,0,none⟩) 1 1,.slice (some ⟨w2.heap.size+1+1+1+1+1,0,none⟩) 1 1] 61)).heap[w2.heap.size+1+1+1+1]? =some (.cells #[.float .f64 4611686018427387904] 51 (0,0)):=by
  have this:=Zc ((((w2.alloc (.cells #[.int .i64 2,.slice (some ⟨n0+1,0,none⟩) 13 13,.int .i64 1,.slice (some ⟨n3,0,none⟩) 7 7] 110)).alloc (.cells #[.float .f64 4617315517961601024] 51)).alloc (.cells #[.int .i64 0,.slice (some ⟨w2.heap.size+1,0,none⟩) 1 1] 63)).alloc (.cells #[.int .i64 1,.slice none 0 0] 63)) (.cells #[.float .f64 4611686018427387904] 51);rw [World.size_alloc,World.size_alloc,World.size_alloc,World.size_alloc] at this;exact Zf _ (Zf _ (this))
 have A5:(((((((w2.alloc (.cells #[.int .i64 2,.slice (some ⟨n0+1,0,none⟩) 13 13,.int .i64 1,.slice (some ⟨n3,0,none⟩) 7 7] 110)).alloc (.cells #[.float .f64 4617315517961601024] 51)).alloc (.cells #[.int .i64 0,.slice (some ⟨w2.heap.size+1,0,none⟩) 1 1] 63)).alloc (.cells #[.int .i64 1,.slice none 0 0] 63)).alloc (.cells #[.float .f64 4611686018427387904] 51)).alloc (.cells #[.int .i64 0,.slice (some ⟨w2.heap.size+1+1+1+1,0,none⟩) 1 1] 63)).alloc (.cells #[.slice (some ⟨w2.heap.size+1+1,0,none⟩) 1 1,.slice (some ⟨w2.heap.size+1+1+1,0,none⟩) 1 1,.slice (some ⟨w2.heap.size+1+1+1+1+1,0,none⟩) 1 1] 61)).heap[w2.heap.size+1+1+1+1+1]? =some (.cells #[.int .i64 0,.slice (some ⟨w2.heap.size+1+1+1+1,0,none⟩) 1 1] 63 (0,0)):=by
  have this:=Zc (((((w2.alloc (.cells #[.int .i64 2,.slice (some ⟨n0+1,0,none⟩) 13 13,.int .i64 1,.slice (some ⟨n3,0,none⟩) 7 7] 110)).alloc (.cells #[.float .f64 4617315517961601024] 51)).alloc (.cells #[.int .i64 0,.slice (some ⟨w2.heap.size+1,0,none⟩) 1 1] 63)).alloc (.cells #[.int .i64 1,.slice none 0 0] 63)).alloc (.cells #[.float .f64 4611686018427387904] 51)) (.cells #[.int .i64 0,.slice (some ⟨w2.heap.size+1+1+1+1,0,none⟩) 1 1] 63);rw [World.size_alloc,World.size_alloc,World.size_alloc,World.size_alloc,World.size_alloc] at this;exact Zf _ (this)
 have A6:(((((((w2.alloc (.cells #[.int .i64 2,.slice (some ⟨n0+1,0,none⟩) 13 13,.int .i64 1,.slice (some ⟨n3,0,none⟩) 7 7] 110)).alloc (.cells #[.float .f64 4617315517961601024] 51)).alloc (.cells #[.int .i64 0,.slice (some ⟨w2.heap.size+1,0,none⟩) 1 1] 63)).alloc (.cells #[.int .i64 1,.slice none 0 0] 63)).alloc (.cells #[.float .f64 4611686018427387904] 51)).alloc (.cells #[.int .i64 0,.slice (some ⟨w2.heap.size+1+1+1+1,0,none⟩) 1 1] 63)).alloc (.cells #[.slice (some ⟨w2.heap.size+1+1,0,none⟩) 1 1,.slice (some ⟨w2.heap.size+1+1+1,0,none⟩) 1 1,.slice (some ⟨w2.heap.size+1+1+1+1+1,0,none⟩) 1 1] 61)).heap[w2.heap.size+1+1+1+1+1+1]? =some (.cells #[.slice (some ⟨w2.heap.size+1+1,0,none⟩) 1 1,.slice (some ⟨w2.heap.size+1+1+1,0,none⟩) 1 1,.slice (some ⟨w2.heap.size+1+1+1+1+1,0,none⟩) 1 1] 61 (0,0)):=by
  have this:=Zc ((((((w2.alloc (.cells #[.int .i64 2,.slice (some ⟨n0+1,0,none⟩) 13 13,.int .i64 1,.slice (some ⟨n3,0,none⟩) 7 7] 110)).alloc (.cells #[.float .f64 4617315517961601024] 51)).alloc (.cells #[.int .i64 0,.slice (some ⟨w2.heap.size+1,0,none⟩) 1 1] 63)).alloc (.cells #[.int .i64 1,.slice none 0 0] 63)).alloc (.cells #[.float .f64 4611686018427387904] 51)).alloc (.cells #[.int .i64 0,.slice (some ⟨w2.heap.size+1+1+1+1,0,none⟩) 1 1] 63)) (.cells #[.slice (some ⟨w2.heap.size+1+1,0,none⟩) 1 1,.slice (some ⟨w2.heap.size+1+1+1,0,none⟩) 1 1,.slice (some ⟨w2.heap.size+1+1+1+1+1,0,none⟩) 1 1] 61);rw [World.size_alloc,World.size_alloc,World.size_alloc,World.size_alloc,World.size_alloc,World.size_alloc] at this;exact this
 have E1:(((((((w2.alloc (.cells #[.int .i64 2,.slice (some ⟨n0+1,0,none⟩) 13 13,.int .i64 1,.slice (some ⟨n3,0,none⟩) 7 7] 110)).alloc (.cells #[.float .f64 4617315517961601024] 51)).alloc (.cells #[.int .i64 0,.slice (some ⟨w2.heap.size+1,0,none⟩) 1 1] 63)).alloc (.cells #[.int .i64 1,.slice none 0 0] 63)).alloc (.cells #[.float .f64 4611686018427387904] 51)).alloc (.cells #[.int .i64 0,.slice (some ⟨w2.heap.size+1+1+1+1,0,none⟩) 1 1] 63)).alloc (.cells #[.slice (some ⟨w2.heap.size+1+1,0,none⟩) 1 1,.slice (some ⟨w2.heap.size+1+1+1,0,none⟩) 1 1,.slice (some ⟨w2.heap.size+1+1+1+1+1,0,none⟩) 1 1] 61)).heap[n0+1]? =some (.cells (Yk Td).toArray 106 (0,0)):=Zf _ (Zf _ (Zf _ (Zf _ (Zf _ (Zf _ (Zf _ (HC1.out)))))));have E3:(((((((w2.alloc (.cells #[.int .i64 2,.slice (some ⟨n0+1,0,none⟩) 13 13,.int .i64 1,.slice (some ⟨n3,0,none⟩) 7 7] 110)).alloc (.cells #[.float .f64 4617315517961601024] 51)).alloc (.cells #[.int .i64 0,.slice (some ⟨w2.heap.size+1,0,none⟩) 1 1] 63)).alloc (.cells #[.int .i64 1,.slice none 0 0] 63)).alloc (.cells #[.float .f64 4611686018427387904] 51)).alloc (.cells #[.int .i64 0,.slice (some ⟨w2.heap.size+1+1+1+1,0,none⟩) 1 1] 63)).alloc (.cells #[.slice (some ⟨w2.heap.size+1+1,0,none⟩) 1 1,.slice (some ⟨w2.heap.size+1+1+1,0,none⟩) 1 1,.slice (some ⟨w2.heap.size+1+1+1+1+1,0,none⟩) 1 1] 61)).heap[n3]? =some (.cells (Yk Te).toArray 106 (0,0)):=Zf _ (Zf _ (Zf _ (Zf _ (Zf _ (Zf _ (Zf _ (HB3.out)))))));have hsz:n0 < w2.heap.size:=lt_of_block HC0.out;have hn3':=HL0.out;obtain ⟨z,hz⟩:∃ z,z=w2.heap.size:=⟨_,rfl⟩;simp only [<-hz] at hb MW A0 A1 A2 A3 A4 A5 A6 hsz E1 E3 ⊢
 clear y0 y1 y2 y3 y4 y5 y6 f0 f1 f2 f3 f4 f5 f6 p0 p1 q0 q1 HD0 HC0 HC1 HM2 HB3;generalize ((((((w2.alloc _).alloc _).alloc _).alloc _).alloc _).alloc _).alloc _=wA at *
 have mm:Ze [n0] wA (((((((wA.setCell ⟨n0,0,none⟩ (.int .i64 2)).setCell ⟨n0,1,none⟩ (.int .i64 3)).setCell ⟨n0,2,none⟩ (.int .i64 30)).setCell ⟨n0,3,none⟩ (.int .i64 2)).setCell ⟨n0,4,none⟩ (.slice none 0 0)).setCell ⟨n0,5,none⟩ (.slice (some ⟨z,0,none⟩) 2 2)).setCell ⟨n0,6,none⟩ (.slice (some ⟨z+1+1+1+1+1+1,0,none⟩) 3 3)):=(((((((Zr_ _ _).setCell _ _ (.inl (by simp))).setCell _ _ (.inl (by simp))).setCell _ _ (.inl (by simp))).setCell _ _ (.inl (by simp))).setCell _ _ (.inl (by simp))).setCell _ _ (.inl (by simp))).setCell _ _ (.inl (by simp));generalize ((((((wA.setCell _ _).setCell _ _).setCell _ _).setCell _ _).setCell _ _).setCell _ _).setCell _ _=w3 at *
 have MM:=MW.then mm (λ j hj=>.inr (by simp at hj;rw [hj];exact hn));replace A0:=mm.at A0 (by simp;omega);replace A1:=mm.at A1 (by simp;omega);replace A2:=mm.at A2 (by simp;omega);replace A3:=mm.at A3 (by simp;omega);replace A4:=mm.at A4 (by simp;omega);replace A5:=mm.at A5 (by simp;omega);replace A6:=mm.at A6 (by simp;omega);replace E1:=mm.at E1 (by simp);replace E3:=mm.at E3 (by simp;omega);have z0:=Za (i:=0) hb rfl;have z1:=Za (i:=1) hb rfl;have z2:=Za (i:=2) hb rfl;have z3:=Za (i:=3) hb rfl;have z4:=Za (i:=4) hb rfl;have z5:=Za (i:=5) hb rfl;have z6:=Za (i:=6) hb rfl;have P:Gp w3 (.slice (some ⟨z,0,none⟩) 2 2) Fw:=by
  refine ⟨_,2,rfl,λ j hj=>?_⟩;have hj:j < 2:=hj;rcases (show j=0\/j=1 by omega) with rfl|rfl
  ·exact ⟨z,0,_,rfl,lt_of_block A0,Za (i:=0) A0 rfl,Za (i:=1) A0 rfl,Kn (n:=13) E1 rfl rfl⟩
  ·exact ⟨z,0,_,rfl,lt_of_block A0,Za (i:=2) A0 rfl,Za (i:=3) A0 rfl,Kn (n:=7) E3 rfl rfl⟩
 have T:Ky w3 (.slice (some ⟨z+1+1+1+1+1+1,0,none⟩) 3 3) R3:=by
  refine ⟨_,3,rfl,λ j hj=>?_⟩;have hj:j < 3:=hj;rcases (show j=0\/j=1\/j=2 by omega) with rfl|rfl|rfl
  ·refine ⟨_,0,_,rfl,lt_of_block A6,Za (i:=0) A6 rfl,_,1,rfl,λ i hi=>?_⟩;obtain rfl:i=0:=by have hi:i < 1:=hi;omega
   exact ⟨_,0,_,rfl,lt_of_block A2,Za (i:=0) A2 rfl,Za (i:=1) A2 rfl,Kn (n:=1) A1 rfl rfl⟩
  ·refine ⟨_,0,_,rfl,lt_of_block A6,Za (i:=1) A6 rfl,_,1,rfl,λ i hi=>?_⟩;obtain rfl:i=0:=by have hi:i < 1:=hi;omega
   exact ⟨_,0,_,rfl,lt_of_block A3,Za (i:=0) A3 rfl,Za (i:=1) A3 rfl,rfl,.inl ⟨rfl,rfl⟩⟩
  ·refine ⟨_,0,_,rfl,lt_of_block A6,Za (i:=2) A6 rfl,_,1,rfl,λ i hi=>?_⟩;obtain rfl:i=0:=by have hi:i < 1:=hi;omega
   exact ⟨_,0,_,rfl,lt_of_block A5,Za (i:=0) A5 rfl,Za (i:=1) A5 rfl,Kn (n:=1) A4 rfl rfl⟩
 exact bodyPost_ret (v:=.agg #[.int .i64 2,.int .i64 3,.int .i64 30,.int .i64 2,.slice none 0 0,.slice (some ⟨z,0,none⟩) 2 2,.slice (some ⟨z+1+1+1+1+1+1,0,none⟩) 3 3]) (by simp [results,results21,go_sem,z0,z1,z2,z3,z4,z5,z6]) rfl ⟨_,rfl,⟨_,_,_,rfl,⟨none,0,rfl,λ i hi=>absurd hi (by simp)⟩,P,T⟩,MM⟩
end
end Go.Proofs.YtkhonmhnchdpkaaGreat
