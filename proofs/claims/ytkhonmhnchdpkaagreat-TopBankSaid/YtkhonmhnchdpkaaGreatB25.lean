/- A part of the proof; no condition. -/
import Derived.Test.YtkhonmhnchdpkaaGreatB24
set_option maxRecDepth 100000
set_option maxHeartbeats 40000000
namespace Go.Proofs.YtkhonmhnchdpkaaGreat
open Go.RowKit _root_.Go.Proofs.Tryz
open Go renaming World→W
open Value renaming int→U,slice→L,float→Z,agg→A_
open IntKind renaming i64→Y
open FloatKind renaming f64→V
open Obj renaming cells→X
open Option renaming some→I,none→O
open Ending renaming returned→R_
open _root_.Go.Proofs.Tryz renaming prog→N
open List renaming getD_eq_getElem?_getD→G_
section
def Ur (i:Xg):Bool:=!(i.op==9)&&(!(i.op==10) || (i.n==1 || i.n==2 || i.n==3 || i.n==4 || i.n==8))
theorem two_v {n:Int} (h:(n==1 || n==2 || n==3 || n==4 || n==8)=true) (x y v:Nat):J9 n x y v=J9 n x y 0:=by
 simp only [Bool.or_eq_true,beq_iff_eq] at h;unfold J9;rcases h with (((h|h)|h)|h)|h <;> subst h <;> rfl
theorem reckon_v {i:Xg} (h:Ur i=true) (s:Zk) (v:Nat):s.reckon v i=s.reckon 0 i:=by
 unfold Ur at h;simp only [Bool.and_eq_true,Bool.not_eq_true',beq_eq_false_iff_ne,ne_eq] at h;obtain ⟨h9,h10⟩:=h;unfold Zk.reckon;rw [Q9 h9,Q9 h9]
 by_cases e:i.op=10
 ·have h10':(i.n==1 || i.n==2 || i.n==3 || i.n==4 || i.n==8)=true:=by simpa [e] using h10
  rw [two_v h10' _ _ v]
 ·rw [Q9 e,Q9 e]
theorem doE_v {i:Xg} (h:Ur i=true) (s:Zk) (v:Nat):s.xt v i=s.xt 0 i:=by
 unfold Zk.xt;rw [reckon_v h s v]
theorem at_exact {s:Zk} (h:s.code.all Ur=true):Ur s.at=true:=by
 unfold Zk.at;rw [G_];rcases Nat.lt_or_ge s.place.toNat s.code.length with hl|hl
 ·rw [List.getElem?_eq_getElem hl];exact List.all_eq_true.1 h _ (List.getElem_mem hl)
 ·rw [List.getElem?_eq_none hl]
  decide
theorem mach_v {s:Zk} (h:s.code.all Ur=true) (v:Nat):s.step v=s.step 0:=by
 unfold Zk.step Zk.go;rw [doE_v (at_exact h) _ v]
theorem Td (s:Zk) (v:Nat):(s.step v).1.code=s.code:=by
 cases hw:s.waits with
 |true=>
  unfold Zk.step;rw [P9 hw]
 |false=>exact (Qw v hw).code
theorem wri_v {x:Zv} (h:x.m.code.all Ur=true) (s:Zh) (v:Nat):x.step s v=x.step s 0:=by
 unfold Zv.step Zv.runs;rw [mach_v h v]
theorem rea_v {x:Z8} (h:x.m.code.all Ur=true) (s:Zh) (v:Nat):x.step s v=x.step s 0:=by
 unfold Z8.step Z8.run;rw [mach_v h v]
theorem wri_code (x:Zv) (s:Zh) (v:Nat):(x.step s v).1.m.code=x.m.code:=by
 have hm:=Td x.m v;unfold Zv.step;split
 ·rfl
 ·split
  ·rfl
  ·split
   ·rfl
   ·split
    ·unfold Zv.runs;simp only;split
     ·exact hm
     ·split
      ·exact hm
      ·split
       ·exact hm
       ·split
        ·exact hm
        ·exact hm
    ·split
     ·unfold Zv.jc;split <;> rfl
     ·split
      ·unfold Zv.writes Zv.ended Zv.wrote;simp only;split <;> split <;> rfl
      ·split
       ·rfl
       ·rfl
theorem rea_code (x:Z8) (s:Zh) (v:Nat):(x.step s v).1.m.code=x.m.code:=by
 have hm:=Td x.m v;have hg:∀ (y:Z8) (r:Yu),(y.zl r s).1.m.code=y.m.code:=by
  intro y r;unfold Z8.zl;simp only;split <;> rfl
 unfold Z8.step;split
 ·rfl
 ·split
  ·unfold Z8.run;split
   ·exact hg _ _
   ·split
    ·rw [hg];exact hm
    ·exact hm
  ·rfl
theorem go_v {g:Qt} (h:g.m.code.all Ur=true) (s:Zh) (v:Nat):g.step s v=g.step s 0:=by
 cases g with
 |wr x=>unfold Qt.step;simp only;rw [wri_v h s v]
 |rd x=>unfold Qt.step;simp only;rw [rea_v h s v]
theorem go_code (g:Qt) (s:Zh) (v:Nat):(g.step s v).1.m.code=g.m.code:=by
 cases g with
 |wr x=>exact wri_code x s v
 |rd x=>exact rea_code x s v
structure Zn.Exact (s:Zn):Prop where
 p:∀ p∈s.progs,p.2.all Ur=true
 x:∀ x∈s.qe,∀ g,x.g=I g->g.m.code.all Ur=true
theorem Zn.Exact.ready {s:Zn} (h:s.Exact) (t:Nat):(s.ready t).Exact:=by
 unfold Zn.ready;split
 ·refine ⟨h.p,λ x hx g hg=>?_⟩;rcases List.mem_append.1 (show x∈s.qe++[_] from hx) with hx|hx
  ·exact h.x x hx g hg
  ·simp at hx;subst hx;simp at hg;subst hg;have hp:∀ n,(Zn.prog s n).2.all Ur=true:=by
    intro n;unfold Zn.prog;rcases Nat.lt_or_ge n.toNat s.progs.length with hl|hl
    ·exact h.p _ (Gx hl)
    ·rw [G_,List.getElem?_eq_none hl];rfl
   unfold Zn.xb;split
   ·exact hp _
   ·exact hp _
 ·exact ⟨h.p,h.x⟩
theorem Zn.Exact.o6 {s:Zn} (h:s.Exact) (t v:Nat):s.j9 t v=s.j9 t 0:=by
 unfold Zn.j9;split
 ·rfl
 ·split
  ·rename_i raw g hx;rw [go_v (h.x _ (List.mem_of_getElem? hx) g rfl) _ v]
  ·rfl
theorem Zn.Exact.j9 {s:Zn} (h:s.Exact) (t v:Nat):(s.j9 t v).Exact:=by
 unfold Zn.j9;split
 ·exact h
 ·split
  ·rename_i i hi raw g hx;have hg:=go_code g s.mem.opened v;have hk:=h.x _ (List.mem_of_getElem? hx) g J;split
   ·refine ⟨h.p,λ x hx' g' hg'=>?_⟩;rcases List.mem_or_eq_of_mem_set hx' with hm|e
    ·exact h.x x hm g' hg'
    ·subst e;cases hg'
   ·refine ⟨h.p,λ x hx' g' hg'=>?_⟩;rcases List.mem_or_eq_of_mem_set hx' with hm|e
    ·exact h.x x hm g' hg'
    ·subst e;simp only [Option.some.injEq] at hg';subst hg';rw [hg];exact hk
  ·exact h
theorem Zn.Exact.step {s:Zn} (h:s.Exact) (t v:Nat):s.step t v=s.step t 0/\(s.step t v).Exact:=by
 unfold Zn.step;split
 ·exact ⟨J,h⟩
 ·exact ⟨(h.ready t).o6 t v,(h.ready t).j9 t v⟩
def runS (s:Zn) (l:List Nat):Zn:=l.foldl (λ s t=>s.step t 0) s
theorem Zn.Exact.runs {s r:Zn} {l:List Nat} (h:s.Exact) (hr:Qn s l r):r=runS s l:=by
 induction hr with
 |nil s=>rfl
 |@cons s r t l v hq ih=>
  have hs:=h.step t v;rw [ih hs.2];unfold runS;rw [List.foldl_cons,hs.1]
def Lr:List Xg:=[⟨1,0,0⟩,⟨16,0,0⟩,⟨6,0,0⟩,⟨10,1,0⟩,⟨1,0,0⟩,⟨17,0,0⟩,⟨1,0,4607182418800017408⟩,⟨16,0,0⟩,⟨6,0,0⟩,⟨10,1,0⟩,⟨1,0,4607182418800017408⟩,⟨17,0,0⟩,⟨20,0,0⟩]
def Ls:List Xg:=[⟨1,0,0⟩,⟨16,0,0⟩,⟨18,0,0⟩,⟨1,0,4607182418800017408⟩,⟨16,0,0⟩,⟨18,0,0⟩,⟨20,0,0⟩]
def Pq:List (Int×List Xg):=[(2,Lr),(1,Ls)]
def Wz:List (List (Int×List Nat)):=[[(0,[4617315517961601024])],[(1,[])],[(0,[4611686018427387904])]]
def Ko:Zn:=Vt 2 3 30 2 [] Pq Wz
def Ml (n:Nat) (l:List Nat):List Nat:=(List.replicate n l).flatten
def liveL:List Nat:=[1,1,1,1,1,1]++Ml 60 [0,2,0]++Ml 60 [1,2]
def W0 (s:Zn):Bool:=s.qf&&s.state==[4619567317775286272,4619567317775286272]&&s.view.length==3&&((s.view.getD 0 Qi).out==[0,0])&&((s.view.getD 0 Qi).mark==0)&&((s.view.getD 1 Qi).number==1)&&((s.view.getD 2 Qi).number==2)
theorem Ih:W0 (runS Ko liveL)=true:=by decide+kernel
theorem S6:Ko.Exact:=by
 refine ⟨?_,λ x hx=>by cases hx⟩;intro p hp;have hp:p∈Pq:=hp;simp only [Pq,List.mem_cons,List.not_mem_nil,or_false] at hp;rcases hp with rfl|rfl <;> decide
theorem Ig {r:Zn} (h:Qn Ko liveL r):W0 r=true:=by
 rw [S6.runs h];exact Ih
end
section
variable {w w':W}
structure SetRs (w:W) (v:Value) (c0 c1 c2 c3:Int) (start:List Nat) (progs:List (Int×List Xg)) (cs:List (List (Int×List Nat))):Prop where
 f:∃ vs vp vt,v=A_ #[U Y c0,U Y c1,U Y c2,U Y c3,vs,vp,vt]/\FX w vs start/\Mh w vp progs/\Hi w vt cs
theorem Gz {z n:Nat} {c:Array Value} {ty:TypeId} {g:Nat} {xs:List Value} (h:w.heap[g]? =I (.cells c ty (0,0))) (hx:c=xs.toArray) (hl:xs.length=n * z):Bg w z (L (I ⟨g,0,O⟩) n n) n xs:=by
 subst hx;refine ⟨hl,.inr ⟨⟨g,0,O⟩,n,J,λ j u hu=>⟨B9 h,?_⟩⟩⟩;have e:(⟨g,0,O⟩:Addr).add j=⟨g,j,O⟩:=by have:=Uz g 0 j;rw [Nat.zero_add] at this;exact this
 rw [e];exact Za h (by rw [<-hu];simp)
theorem pair_c:Calls N 21 #[] w λ e w'=>∃ v,e=R_ v/\SetRs w' v 2 3 30 2 [] Pq Wz/\Ze [] w w':=by
 go_enter func21,ntmps21;go_upto_region 2 with fail;generalize hw:((w.alloc _).alloc _).alloc _=w1;obtain ⟨n0,hn0⟩:∃ n,n=w.heap.size:=⟨_,J⟩;have B0:w1.heap[n0]? =I (X #[U Y 0,U Y 0,U Y 0,U Y 0,L O 0 0,L O 0 0,L O 0 0] 28 (0,0)):=by rw [<-hw,hn0];exact Zf _ (Zf _ (Zc _ _))
 have B1:w1.heap[n0+1]? =I (.cells (Yl Lr).toArray 106 (0,0)):=by
  rw [<-hw,hn0];have:=Zc (w.alloc (X #[U Y 0,U Y 0,U Y 0,U Y 0,L O 0 0,L O 0 0,L O 0 0] 28)) (.cells (Yl Lr).toArray 106);rw [World.size_alloc] at this;exact Zf _ this
 have B2:w1.heap[n0+1+1]? =I (X #[U Y 2,L (I ⟨n0+1,0,O⟩) 13 13] 110 (0,0)):=by
  rw [<-hw,hn0];have:=Zc ((w.alloc (X #[U Y 0,U Y 0,U Y 0,U Y 0,L O 0 0,L O 0 0,L O 0 0] 28)).alloc (.cells (Yl Lr).toArray 106)) (X #[U Y 2,L (I ⟨w.heap.size+1,0,O⟩) 13 13] 110);rw [World.size_alloc,World.size_alloc] at this;exact this
 have M1:Ze [] w w1:=by rw [<-hw];exact (((Zr_ _ _).alloc _).alloc _).alloc _
 have HB0:=Zh_ B0;have HB1:=Zh_ B1;have HB2:=Zh_ B2;have HM1:=Zh_ M1;rw [<-hn0];have HN0:=Zh_ hn0;clear hw hn0 B0 B1 B2 M1;go_upto_region 3 with fail;generalize hw:(w1.alloc _).alloc _=w2;obtain ⟨n3,hn3⟩:∃ n,n=w1.heap.size:=⟨_,J⟩;have B3:w2.heap[n3]? =I (.cells (Yl Ls).toArray 106 (0,0)):=by
  rw [<-hw,hn3];exact Zf _ (Zc w1 (.cells (Yl Ls).toArray 106))
 have B4:w2.heap[n3+1]? =I (X #[U Y 1,L (I ⟨n3,0,O⟩) 7 7] 110 (0,0)):=by
  rw [<-hw,hn3];have:=Zc (w1.alloc (.cells (Yl Ls).toArray 106)) (X #[U Y 1,L (I ⟨w1.heap.size,0,O⟩) 7 7] 110);rw [World.size_alloc] at this;exact this
 have M2:Ze [] w1 w2:=by rw [<-hw];exact ((Zr_ _ _).alloc _).alloc _
 have C0:=M2.at HB0.out (by simp);have HC0:=Zh_ C0;have HC1:=Zh_ (M2.at HB1.out (by simp));have C2:=M2.at HB2.out (by simp);have HM2:=Zh_ (HM1.out.trans M2);have HB3:=Zh_ B3;have HL0:=Zh_ (show n0 < n3 by rw [hn3];exact B9 HB0.out);rw [<-hn3];have HN3:=Zh_ hn3;have p0:=Za (i:=0) C2 J;have p1:=Za (i:=1) C2 J;have q0:=Za (i:=0) B4 J;have q1:=Za (i:=1) B4 J;have D0:=Zf (X #[L (I ⟨w2.heap.size+1+1,0,O⟩) 1 1,L (I ⟨w2.heap.size+1+1+1,0,O⟩) 1 1,L (I ⟨w2.heap.size+1+1+1+1+1,0,O⟩) 1 1] 61) (Zf (X #[U Y 0,L (I ⟨w2.heap.size+1+1+1+1,0,O⟩) 1 1] 63) (Zf (X #[Z V 4611686018427387904] 51) (Zf (X #[U Y 1,L O 0 0] 63) (Zf (X #[U Y 0,L (I ⟨w2.heap.size+1,0,O⟩) 1 1] 63) (Zf (X #[Z V 4617315517961601024] 51) (Zf (X #[U Y 2,L (I ⟨n0+1,0,O⟩) 13 13,U Y 1,L (I ⟨n3,0,O⟩) 7 7] 110) (C0)))))));have HD0:=Zh_ D0;have y0:=Za (i:=0) D0 J;have f0:=Zb (i:=0) D0;have y1:=Za (i:=1) D0 J;have f1:=Zb (i:=1) D0;have y2:=Za (i:=2) D0 J;have f2:=Zb (i:=2) D0;have y3:=Za (i:=3) D0 J;have f3:=Zb (i:=3) D0;have y4:=Za (i:=4) D0 J;have f4:=Zb (i:=4) D0;have y5:=Za (i:=5) D0 J;have f5:=Zb (i:=5) D0;have y6:=Za (i:=6) D0 J;have f6:=Zb (i:=6) D0;clear hw hn3 B3 B4 M2 C0 C2 HB0 HB1 HB2 HM1 D0;go_wp2_with fail;have hb:=Zd (i:=6) (L (I ⟨w2.heap.size+1+1+1+1+1+1,0,O⟩) 3 3) (Zd (i:=5) (L (I ⟨w2.heap.size,0,O⟩) 2 2) (Zd (i:=4) (L O 0 0) (Zd (i:=3) (U Y 2) (Zd (i:=2) (U Y 30) (Zd (i:=1) (U Y 3) (Zd (i:=0) (U Y 2) (HD0.out)))))));have MW:Ze [] w (((((((w2.alloc (X #[U Y 2,L (I ⟨n0+1,0,O⟩) 13 13,U Y 1,L (I ⟨n3,0,O⟩) 7 7] 110)).alloc (X #[Z V 4617315517961601024] 51)).alloc (X #[U Y 0,L (I ⟨w2.heap.size+1,0,O⟩) 1 1] 63)).alloc (X #[U Y 1,L O 0 0] 63)).alloc (X #[Z V 4611686018427387904] 51)).alloc (X #[U Y 0,L (I ⟨w2.heap.size+1+1+1+1,0,O⟩) 1 1] 63)).alloc (X #[L (I ⟨w2.heap.size+1+1,0,O⟩) 1 1,L (I ⟨w2.heap.size+1+1+1,0,O⟩) 1 1,L (I ⟨w2.heap.size+1+1+1+1+1,0,O⟩) 1 1] 61)):=(((((((HM2.out).alloc _).alloc _).alloc _).alloc _).alloc _).alloc _).alloc _;have hn:w.heap.size<=n0:=Nat.le_of_eq HN0.out.symm;have A0:(((((((w2.alloc (X #[U Y 2,L (I ⟨n0+1,0,O⟩) 13 13,U Y 1,L (I ⟨n3,0,O⟩) 7 7] 110)).alloc (X #[Z V 4617315517961601024] 51)).alloc (X #[U Y 0,L (I ⟨w2.heap.size+1,0,O⟩) 1 1] 63)).alloc (X #[U Y 1,L O 0 0] 63)).alloc (X #[Z V 4611686018427387904] 51)).alloc (X #[U Y 0,L (I ⟨w2.heap.size+1+1+1+1,0,O⟩) 1 1] 63)).alloc (X #[L (I ⟨w2.heap.size+1+1,0,O⟩) 1 1,L (I ⟨w2.heap.size+1+1+1,0,O⟩) 1 1,L (I ⟨w2.heap.size+1+1+1+1+1,0,O⟩) 1 1] 61)).heap[w2.heap.size]? =I (X #[U Y 2,L (I ⟨n0+1,0,O⟩) 13 13,U Y 1,L (I ⟨n3,0,O⟩) 7 7] 110 (0,0)):=by
  have this:=Zc w2 (X #[U Y 2,L (I ⟨n0+1,0,O⟩) 13 13,U Y 1,L (I ⟨n3,0,O⟩) 7 7] 110);exact Zf _ (Zf _ (Zf _ (Zf _ (Zf _ (Zf _ (this))))))
 have A1:(((((((w2.alloc (X #[U Y 2,L (I ⟨n0+1,0,O⟩) 13 13,U Y 1,L (I ⟨n3,0,O⟩) 7 7] 110)).alloc (X #[Z V 4617315517961601024] 51)).alloc (X #[U Y 0,L (I ⟨w2.heap.size+1,0,O⟩) 1 1] 63)).alloc (X #[U Y 1,L O 0 0] 63)).alloc (X #[Z V 4611686018427387904] 51)).alloc (X #[U Y 0,L (I ⟨w2.heap.size+1+1+1+1,0,O⟩) 1 1] 63)).alloc (X #[L (I ⟨w2.heap.size+1+1,0,O⟩) 1 1,L (I ⟨w2.heap.size+1+1+1,0,O⟩) 1 1,L (I ⟨w2.heap.size+1+1+1+1+1,0,O⟩) 1 1] 61)).heap[w2.heap.size+1]? =I (X #[Z V 4617315517961601024] 51 (0,0)):=by
  have this:=Zc (w2.alloc (X #[U Y 2,L (I ⟨n0+1,0,O⟩) 13 13,U Y 1,L (I ⟨n3,0,O⟩) 7 7] 110)) (X #[Z V 4617315517961601024] 51);rw [World.size_alloc] at this;exact Zf _ (Zf _ (Zf _ (Zf _ (Zf _ (this)))))
 have A2:(((((((w2.alloc (X #[U Y 2,L (I ⟨n0+1,0,O⟩) 13 13,U Y 1,L (I ⟨n3,0,O⟩) 7 7] 110)).alloc (X #[Z V 4617315517961601024] 51)).alloc (X #[U Y 0,L (I ⟨w2.heap.size+1,0,O⟩) 1 1] 63)).alloc (X #[U Y 1,L O 0 0] 63)).alloc (X #[Z V 4611686018427387904] 51)).alloc (X #[U Y 0,L (I ⟨w2.heap.size+1+1+1+1,0,O⟩) 1 1] 63)).alloc (X #[L (I ⟨w2.heap.size+1+1,0,O⟩) 1 1,L (I ⟨w2.heap.size+1+1+1,0,O⟩) 1 1,L (I ⟨w2.heap.size+1+1+1+1+1,0,O⟩) 1 1] 61)).heap[w2.heap.size+1+1]? =I (X #[U Y 0,L (I ⟨w2.heap.size+1,0,O⟩) 1 1] 63 (0,0)):=by
  have this:=Zc ((w2.alloc (X #[U Y 2,L (I ⟨n0+1,0,O⟩) 13 13,U Y 1,L (I ⟨n3,0,O⟩) 7 7] 110)).alloc (X #[Z V 4617315517961601024] 51)) (X #[U Y 0,L (I ⟨w2.heap.size+1,0,O⟩) 1 1] 63);rw [World.size_alloc,World.size_alloc] at this;exact Zf _ (Zf _ (Zf _ (Zf _ (this))))
 have A3:(((((((w2.alloc (X #[U Y 2,L (I ⟨n0+1,0,O⟩) 13 13,U Y 1,L (I ⟨n3,0,O⟩) 7 7] 110)).alloc (X #[Z V 4617315517961601024] 51)).alloc (X #[U Y 0,L (I ⟨w2.heap.size+1,0,O⟩) 1 1] 63)).alloc (X #[U Y 1,L O 0 0] 63)).alloc (X #[Z V 4611686018427387904] 51)).alloc (X #[U Y 0,L (I ⟨w2.heap.size+1+1+1+1,0,O⟩) 1 1] 63)).alloc (X #[L (I ⟨w2.heap.size+1+1,0,O⟩) 1 1,L (I ⟨w2.heap.size+1+1+1,0,O⟩) 1 1,L (I ⟨w2.heap.size+1+1+1+1+1,0,O⟩) 1 1] 61)).heap[w2.heap.size+1+1+1]? =I (X #[U Y 1,L O 0 0] 63 (0,0)):=by
  have this:=Zc (((w2.alloc (X #[U Y 2,L (I ⟨n0+1,0,O⟩) 13 13,U Y 1,L (I ⟨n3,0,O⟩) 7 7] 110)).alloc (X #[Z V 4617315517961601024] 51)).alloc (X #[U Y 0,L (I ⟨w2.heap.size+1,0,O⟩) 1 1] 63)) (X #[U Y 1,L O 0 0] 63);rw [World.size_alloc,World.size_alloc,World.size_alloc] at this;exact Zf _ (Zf _ (Zf _ (this)))
 have A4:(((((((w2.alloc (X #[U Y 2,L (I ⟨n0+1,0,O⟩) 13 13,U Y 1,L (I ⟨n3,0,O⟩) 7 7] 110)).alloc (X #[Z V 4617315517961601024] 51)).alloc (X #[U Y 0,L (I ⟨w2.heap.size+1,0,O⟩) 1 1] 63)).alloc (X #[U Y 1,L O 0 0] 63)).alloc (X #[Z V 4611686018427387904] 51)).alloc (X #[U Y 0,L (I ⟨w2.heap.size+1+1+1+1,0,O⟩) 1 1] 63)).alloc (X #[L (I ⟨w2.heap.size+1+1,0,O⟩) 1 1,L (I ⟨w2.heap.size+1+1+1,0,O⟩) 1 1,L (I ⟨w2.heap.size+1+1+1+1+1,0,O⟩) 1 1] 61)).heap[w2.heap.size+1+1+1+1]? =I (X #[Z V 4611686018427387904] 51 (0,0)):=by
  have this:=Zc ((((w2.alloc (X #[U Y 2,L (I ⟨n0+1,0,O⟩) 13 13,U Y 1,L (I ⟨n3,0,O⟩) 7 7] 110)).alloc (X #[Z V 4617315517961601024] 51)).alloc (X #[U Y 0,L (I ⟨w2.heap.size+1,0,O⟩) 1 1] 63)).alloc (X #[U Y 1,L O 0 0] 63)) (X #[Z V 4611686018427387904] 51);rw [World.size_alloc,World.size_alloc,World.size_alloc,World.size_alloc] at this;exact Zf _ (Zf _ (this))
 have A5:(((((((w2.alloc (X #[U Y 2,L (I ⟨n0+1,0,O⟩) 13 13,U Y 1,L (I ⟨n3,0,O⟩) 7 7] 110)).alloc (X #[Z V 4617315517961601024] 51)).alloc (X #[U Y 0,L (I ⟨w2.heap.size+1,0,O⟩) 1 1] 63)).alloc (X #[U Y 1,L O 0 0] 63)).alloc (X #[Z V 4611686018427387904] 51)).alloc (X #[U Y 0,L (I ⟨w2.heap.size+1+1+1+1,0,O⟩) 1 1] 63)).alloc (X #[L (I ⟨w2.heap.size+1+1,0,O⟩) 1 1,L (I ⟨w2.heap.size+1+1+1,0,O⟩) 1 1,L (I ⟨w2.heap.size+1+1+1+1+1,0,O⟩) 1 1] 61)).heap[w2.heap.size+1+1+1+1+1]? =I (X #[U Y 0,L (I ⟨w2.heap.size+1+1+1+1,0,O⟩) 1 1] 63 (0,0)):=by
  have this:=Zc (((((w2.alloc (X #[U Y 2,L (I ⟨n0+1,0,O⟩) 13 13,U Y 1,L (I ⟨n3,0,O⟩) 7 7] 110)).alloc (X #[Z V 4617315517961601024] 51)).alloc (X #[U Y 0,L (I ⟨w2.heap.size+1,0,O⟩) 1 1] 63)).alloc (X #[U Y 1,L O 0 0] 63)).alloc (X #[Z V 4611686018427387904] 51)) (X #[U Y 0,L (I ⟨w2.heap.size+1+1+1+1,0,O⟩) 1 1] 63);rw [World.size_alloc,World.size_alloc,World.size_alloc,World.size_alloc,World.size_alloc] at this;exact Zf _ (this)
 have A6:(((((((w2.alloc (X #[U Y 2,L (I ⟨n0+1,0,O⟩) 13 13,U Y 1,L (I ⟨n3,0,O⟩) 7 7] 110)).alloc (X #[Z V 4617315517961601024] 51)).alloc (X #[U Y 0,L (I ⟨w2.heap.size+1,0,O⟩) 1 1] 63)).alloc (X #[U Y 1,L O 0 0] 63)).alloc (X #[Z V 4611686018427387904] 51)).alloc (X #[U Y 0,L (I ⟨w2.heap.size+1+1+1+1,0,O⟩) 1 1] 63)).alloc (X #[L (I ⟨w2.heap.size+1+1,0,O⟩) 1 1,L (I ⟨w2.heap.size+1+1+1,0,O⟩) 1 1,L (I ⟨w2.heap.size+1+1+1+1+1,0,O⟩) 1 1] 61)).heap[w2.heap.size+1+1+1+1+1+1]? =I (X #[L (I ⟨w2.heap.size+1+1,0,O⟩) 1 1,L (I ⟨w2.heap.size+1+1+1,0,O⟩) 1 1,L (I ⟨w2.heap.size+1+1+1+1+1,0,O⟩) 1 1] 61 (0,0)):=by
  have this:=Zc ((((((w2.alloc (X #[U Y 2,L (I ⟨n0+1,0,O⟩) 13 13,U Y 1,L (I ⟨n3,0,O⟩) 7 7] 110)).alloc (X #[Z V 4617315517961601024] 51)).alloc (X #[U Y 0,L (I ⟨w2.heap.size+1,0,O⟩) 1 1] 63)).alloc (X #[U Y 1,L O 0 0] 63)).alloc (X #[Z V 4611686018427387904] 51)).alloc (X #[U Y 0,L (I ⟨w2.heap.size+1+1+1+1,0,O⟩) 1 1] 63)) (X #[L (I ⟨w2.heap.size+1+1,0,O⟩) 1 1,L (I ⟨w2.heap.size+1+1+1,0,O⟩) 1 1,L (I ⟨w2.heap.size+1+1+1+1+1,0,O⟩) 1 1] 61);rw [World.size_alloc,World.size_alloc,World.size_alloc,World.size_alloc,World.size_alloc,World.size_alloc] at this;exact this
 have E1:(((((((w2.alloc (X #[U Y 2,L (I ⟨n0+1,0,O⟩) 13 13,U Y 1,L (I ⟨n3,0,O⟩) 7 7] 110)).alloc (X #[Z V 4617315517961601024] 51)).alloc (X #[U Y 0,L (I ⟨w2.heap.size+1,0,O⟩) 1 1] 63)).alloc (X #[U Y 1,L O 0 0] 63)).alloc (X #[Z V 4611686018427387904] 51)).alloc (X #[U Y 0,L (I ⟨w2.heap.size+1+1+1+1,0,O⟩) 1 1] 63)).alloc (X #[L (I ⟨w2.heap.size+1+1,0,O⟩) 1 1,L (I ⟨w2.heap.size+1+1+1,0,O⟩) 1 1,L (I ⟨w2.heap.size+1+1+1+1+1,0,O⟩) 1 1] 61)).heap[n0+1]? =I (.cells (Yl Lr).toArray 106 (0,0)):=Zf _ (Zf _ (Zf _ (Zf _ (Zf _ (Zf _ (Zf _ (HC1.out)))))));have E3:(((((((w2.alloc (X #[U Y 2,L (I ⟨n0+1,0,O⟩) 13 13,U Y 1,L (I ⟨n3,0,O⟩) 7 7] 110)).alloc (X #[Z V 4617315517961601024] 51)).alloc (X #[U Y 0,L (I ⟨w2.heap.size+1,0,O⟩) 1 1] 63)).alloc (X #[U Y 1,L O 0 0] 63)).alloc (X #[Z V 4611686018427387904] 51)).alloc (X #[U Y 0,L (I ⟨w2.heap.size+1+1+1+1,0,O⟩) 1 1] 63)).alloc (X #[L (I ⟨w2.heap.size+1+1,0,O⟩) 1 1,L (I ⟨w2.heap.size+1+1+1,0,O⟩) 1 1,L (I ⟨w2.heap.size+1+1+1+1+1,0,O⟩) 1 1] 61)).heap[n3]? =I (.cells (Yl Ls).toArray 106 (0,0)):=Zf _ (Zf _ (Zf _ (Zf _ (Zf _ (Zf _ (Zf _ (HB3.out)))))));have hsz:n0 < w2.heap.size:=B9 HC0.out;have hn3':=HL0.out;obtain ⟨z,hz⟩:∃ z,z=w2.heap.size:=⟨_,J⟩;simp only [<-hz] at hb MW A0 A1 A2 A3 A4 A5 A6 hsz E1 E3 ⊢
 clear y0 y1 y2 y3 y4 y5 y6 f0 f1 f2 f3 f4 f5 f6 p0 p1 q0 q1 HD0 HC0 HC1 HM2 HB3;generalize ((((((w2.alloc _).alloc _).alloc _).alloc _).alloc _).alloc _).alloc _=wA at *
 have mm:Ze [n0] wA (((((((wA.setCell ⟨n0,0,O⟩ (U Y 2)).setCell ⟨n0,1,O⟩ (U Y 3)).setCell ⟨n0,2,O⟩ (U Y 30)).setCell ⟨n0,3,O⟩ (U Y 2)).setCell ⟨n0,4,O⟩ (L O 0 0)).setCell ⟨n0,5,O⟩ (L (I ⟨z,0,O⟩) 2 2)).setCell ⟨n0,6,O⟩ (L (I ⟨z+1+1+1+1+1+1,0,O⟩) 3 3)):=(((((((Zr_ _ _).setCell _ _ (.inl (by simp))).setCell _ _ (.inl (by simp))).setCell _ _ (.inl (by simp))).setCell _ _ (.inl (by simp))).setCell _ _ (.inl (by simp))).setCell _ _ (.inl (by simp))).setCell _ _ (.inl (by simp));generalize ((((((wA.setCell _ _).setCell _ _).setCell _ _).setCell _ _).setCell _ _).setCell _ _).setCell _ _=w3 at *
 have MM:=MW.then mm (λ j hj=>.inr (by simp at hj;rw [hj];exact hn));replace A0:=mm.at A0 (by simp;omega);replace A1:=mm.at A1 (by simp;omega);replace A2:=mm.at A2 (by simp;omega);replace A3:=mm.at A3 (by simp;omega);replace A4:=mm.at A4 (by simp;omega);replace A5:=mm.at A5 (by simp;omega);replace A6:=mm.at A6 (by simp;omega);replace E1:=mm.at E1 (by simp);replace E3:=mm.at E3 (by simp;omega);have z0:=Za (i:=0) hb J;have z1:=Za (i:=1) hb J;have z2:=Za (i:=2) hb J;have z3:=Za (i:=3) hb J;have z4:=Za (i:=4) hb J;have z5:=Za (i:=5) hb J;have z6:=Za (i:=6) hb J;have P:Mh w3 (L (I ⟨z,0,O⟩) 2 2) Pq:=by
  refine ⟨_,2,J,λ j hj=>?_⟩;have hj:j < 2:=hj;rcases (show j=0\/j=1 by omega) with rfl|rfl
  ·exact ⟨z,0,_,J,B9 A0,Za (i:=0) A0 J,Za (i:=1) A0 J,Gz (n:=13) E1 J J⟩
  ·exact ⟨z,0,_,J,B9 A0,Za (i:=2) A0 J,Za (i:=3) A0 J,Gz (n:=7) E3 J J⟩
 have T:Hi w3 (L (I ⟨z+1+1+1+1+1+1,0,O⟩) 3 3) Wz:=by
  refine ⟨_,3,J,λ j hj=>?_⟩;have hj:j < 3:=hj;rcases (show j=0\/j=1\/j=2 by omega) with rfl|rfl|rfl
  ·refine ⟨_,0,_,J,B9 A6,Za (i:=0) A6 J,_,1,J,λ i hi=>?_⟩;obtain rfl:i=0:=by have hi:i < 1:=hi;omega
   exact ⟨_,0,_,J,B9 A2,Za (i:=0) A2 J,Za (i:=1) A2 J,Gz (n:=1) A1 J J⟩
  ·refine ⟨_,0,_,J,B9 A6,Za (i:=1) A6 J,_,1,J,λ i hi=>?_⟩;obtain rfl:i=0:=by have hi:i < 1:=hi;omega
   exact ⟨_,0,_,J,B9 A3,Za (i:=0) A3 J,Za (i:=1) A3 J,J,.inl ⟨J,J⟩⟩
  ·refine ⟨_,0,_,J,B9 A6,Za (i:=2) A6 J,_,1,J,λ i hi=>?_⟩;obtain rfl:i=0:=by have hi:i < 1:=hi;omega
   exact ⟨_,0,_,J,B9 A5,Za (i:=0) A5 J,Za (i:=1) A5 J,Gz (n:=1) A4 J J⟩
 exact bodyPost_ret (v:=A_ #[U Y 2,U Y 3,U Y 30,U Y 2,L O 0 0,L (I ⟨z,0,O⟩) 2 2,L (I ⟨z+1+1+1+1+1+1,0,O⟩) 3 3]) (by simp [results,results21,go_sem,z0,z1,z2,z3,z4,z5,z6]) J ⟨_,J,⟨_,_,_,J,⟨O,0,J,λ i hi=>absurd hi (by simp)⟩,P,T⟩,MM⟩
end
end Go.Proofs.YtkhonmhnchdpkaaGreat
