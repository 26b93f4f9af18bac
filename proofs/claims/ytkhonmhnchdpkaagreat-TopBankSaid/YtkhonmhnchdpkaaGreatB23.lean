/- A part of the proof; no condition. -/
import Derived.Test.YtkhonmhnchdpkaaGreatB22
set_option maxRecDepth 100000
set_option maxHeartbeats 40000000
namespace Go.Proofs.YtkhonmhnchdpkaaGreat
open Go.RowKit _root_.Go.Proofs.Tryz
open Go renaming World→W
open Value renaming int→U,pointer→E,slice→L,float→Z,agg→A_
open IntKind renaming i64→Y
open FloatKind renaming f64→V
open Obj renaming cells→X
open Option renaming some→I,none→O
open Ending renaming returned→R_
open _root_.Go.Proofs.Tryz renaming prog→N
open List renaming getD_eq_getElem?_getD→G9,getD_eq_getElem?_getD→G_
section

end
section
variable {w w':W}
theorem G9 (ad:Addr) (j:Nat):(ad.add j).block=ad.block:=by unfold Addr.add;split <;> rfl
def Bg (w:W) (z:Nat) (v:Value) (n:Nat) (xs:List Value):Prop:=
 xs.length=n * z/\((v=L O 0 0/\n=0)\/∃ ad cap,v=L (I ad) n cap/\∀ (j:Nat) (u:Value),xs[j]? =I u->ad.block < w.heap.size/\w.cell? (ad.add j)=I u)
theorem Bg.mod {z n:Nat} {v:Value} {xs:List Value} (h:Bg w z v n xs) (m:Ze [] w w'):Bg w' z v n xs:=by
 refine ⟨h.1,?_⟩;rcases h.2 with e|⟨ad,cap,e,h⟩
 ·exact .inl e
 ·refine .inr ⟨ad,cap,e,λ j u hu=>?_⟩;obtain ⟨h1,h2⟩:=h j u hu;exact ⟨Nat.lt_of_lt_of_le h1 m.size,Z5 m (a:=ad.add j) (by rw [G9];exact h1) (by simp) h2⟩
theorem Bg.form {z n:Nat} {v:Value} {xs:List Value} (h:Bg w z v n xs):∃ a cap,v=L a n cap:=by
 rcases h.2 with ⟨e,rfl⟩|⟨ad,cap,e,_⟩
 ·exact ⟨O,0,e⟩
 ·exact ⟨I ad,cap,e⟩
def Mh (w:W) (v:Value) (l:List (Int×List Xg)):Prop:=
 ∃ a cap,v=L a l.length cap/\∀ j,j < l.length->∃ h o u,a=I ⟨h,o,O⟩/\h < w.heap.size/\w.cell? ⟨h,o+j * 2,O⟩=I (U Y (l.getD j (0,[])).1)/\w.cell? ⟨h,o+j * 2+1,O⟩=I u/\Bg w 3 u (l.getD j (0,[])).2.length (Yl (l.getD j (0,[])).2)
def Pi (w:W) (v:Value) (l:List (Int×List Nat)):Prop:=
 ∃ a cap,v=L a l.length cap/\∀ j,j < l.length->∃ h o u,a=I ⟨h,o,O⟩/\h < w.heap.size/\w.cell? ⟨h,o+j * 2,O⟩=I (U Y (l.getD j (0,[])).1)/\w.cell? ⟨h,o+j * 2+1,O⟩=I u/\Bg w 1 u (l.getD j (0,[])).2.length ((l.getD j (0,[])).2.map (Z V))
def Hi (w:W) (v:Value) (cs:List (List (Int×List Nat))):Prop:=
 ∃ a cap,v=L a cs.length cap/\∀ i,i < cs.length->∃ g o u,a=I ⟨g,o,O⟩/\g < w.heap.size/\w.cell? ⟨g,o+i,O⟩=I u/\Pi w u (cs.getD i [])
def CallRd (w:W) (v:Value) (l:List (Int×List Nat)):Prop:=
 ∃ a cap,v=L a l.length cap/\∀ j,j < l.length->∃ h o aa ca,a=I ⟨h,o,O⟩/\h < w.heap.size/\w.cell? ⟨h,o+j * 2,O⟩=I (U Y (l.getD j (0,[])).1)/\w.cell? ⟨h,o+j * 2+1,O⟩=I (L aa (l.getD j (0,[])).2.length ca)
def ThrRd (w:W) (v:Value) (cs:List (List (Int×List Nat))):Prop:=
 ∃ a cap,v=L a cs.length cap/\∀ i,i < cs.length->∃ g o u,a=I ⟨g,o,O⟩/\g < w.heap.size/\w.cell? ⟨g,o+i,O⟩=I u/\CallRd w u (cs.getD i [])
theorem Pi.mod {v:Value} {l:List (Int×List Nat)} (h:Pi w v l) (m:Ze [] w w'):Pi w' v l:=by
 obtain ⟨a,cap,rfl,h⟩:=h;refine ⟨a,cap,J,λ j hj=>?_⟩;obtain ⟨g,o,u,e,hg,h1,h2,h3⟩:=h j hj;exact ⟨g,o,u,e,Nat.lt_of_lt_of_le hg m.size,Z5 m hg (by simp) h1,Z5 m hg (by simp) h2,h3.mod m⟩
theorem Hi.mod {v:Value} {cs:List (List (Int×List Nat))} (h:Hi w v cs) (m:Ze [] w w'):Hi w' v cs:=by
 obtain ⟨a,cap,rfl,h⟩:=h;refine ⟨a,cap,J,λ j hj=>?_⟩;obtain ⟨g,o,u,e,hg,h1,h2⟩:=h j hj;exact ⟨g,o,u,e,Nat.lt_of_lt_of_le hg m.size,Z5 m hg (by simp) h1,h2.mod m⟩
theorem Pi.rd {v:Value} {l:List (Int×List Nat)} (h:Pi w v l):CallRd w v l:=by
 obtain ⟨a,cap,rfl,h⟩:=h;refine ⟨a,cap,J,λ j hj=>?_⟩;obtain ⟨g,o,u,e,hg,h1,h2,h3⟩:=h j hj;obtain ⟨aa,ca,rfl⟩:=h3.form;exact ⟨g,o,aa,ca,e,hg,h1,h2⟩
theorem Hi.rd {v:Value} {cs:List (List (Int×List Nat))} (h:Hi w v cs):ThrRd w v cs:=by
 obtain ⟨a,cap,rfl,h⟩:=h;refine ⟨a,cap,J,λ j hj=>?_⟩;obtain ⟨g,o,u,e,hg,h1,h2⟩:=h j hj;exact ⟨g,o,u,e,hg,h1,h2.rd⟩
def FX (w:W) (v:Value) (xs:List Nat):Prop:=
 ∃ a cap,v=L a xs.length cap/\∀ i,i < xs.length->∃ g o,a=I ⟨g,o,O⟩/\g < w.heap.size/\w.cell? ⟨g,o+i,O⟩=I (Z V (xs.getD i 0))
def Qs (np:Nat) (c:Int×List Nat):Bool:=decide (c.1 < 0) || decide ((np:Int)<=c.1) || decide (8 < c.2.length)
instance (c0 c1 c2 c3:Int):Decidable (Y1 c0 c1 c2 c3):=by unfold Y1;exact inferInstance
def Qo (c0 c1 c2 c3:Int) (ns np:Nat) (cs:List (List (Int×List Nat))):Int:=
 if ¬ Y1 c0 c1 c2 c3\/c0 < ns then 1
 else if 64 < np\/c1 < cs.length then 160
 else if cs.any (λ l=>decide (64 < l.length))=true then 160
 else if cs.any (λ l=>l.any (Qs np))=true then 1 else 0
variable {c0 c1 c2 c3:Int} {ns np:Nat} {cs:List (List (Int×List Nat))}
theorem Me {α:Type} {l:List α} {p:α->Bool} {d:α} {i:Nat} (hi:i < l.length) (h:p (l.getD i d)=true):l.any p=true:=by
 rw [List.any_eq_true];refine ⟨l.getD i d,?_,h⟩;rw [G_,List.getElem?_eq_getElem hi];exact List.getElem_mem hi
theorem Md {α:Type} {l:List α} {p:α->Bool} {d:α} (h:∀ i,i < l.length->p (l.getD i d)=false):l.any p=false:=by
 rw [List.any_eq_false];intro x hx;obtain ⟨i,hi,rfl⟩:=List.mem_iff_getElem.1 hx;have:=h i hi;rw [G_,List.getElem?_eq_getElem hi] at this;simpa using this
theorem Hj (h:¬ Y1 c0 c1 c2 c3\/c0 < ns):Qo c0 c1 c2 c3 ns np cs=1:=P9 h
theorem Br (h:Y1 c0 c1 c2 c3) (hs:(ns:Int)<=c0) (h2:64 < np\/c1 < cs.length):Qo c0 c1 c2 c3 ns np cs=160:=by
 unfold Qo;rw [Q9 (by rintro (k|k);exact k h;omega),P9 h2]
theorem Dw (h:Y1 c0 c1 c2 c3) (hs:(ns:Int)<=c0) (hp:np<=64) (ht:(cs.length:Int)<=c1) {i:Nat} (hi:i < cs.length) (h2:64 < (cs.getD i []).length):Qo c0 c1 c2 c3 ns np cs=160:=by
 unfold Qo;rw [Q9 (by rintro (k|k);exact k h;omega),Q9 (by omega),P9 (Me hi (decide_eq_true h2))]
theorem Lk (h:∀ i,i < cs.length->(cs.getD i []).length<=64):cs.any (λ l=>decide (64 < l.length))=false:=
 Md (d:=[]) (λ i hi=>D9 (by have:=h i hi;omega))
theorem Dx (h:Y1 c0 c1 c2 c3) (hs:(ns:Int)<=c0) (hp:np<=64) (ht:(cs.length:Int)<=c1) (h64:∀ i,i < cs.length->(cs.getD i []).length<=64) {i j:Nat} (hi:i < cs.length) (hj:j < (cs.getD i []).length) (h2:Qs np ((cs.getD i []).getD j (0,[]))=true):Qo c0 c1 c2 c3 ns np cs=1:=by
 unfold Qo;rw [Q9 (by rintro (k|k);exact k h;omega),Q9 (by omega),Q9 (by rw [Lk h64];decide),P9 (Me hi (Me hj h2))]
theorem Dv (h:Y1 c0 c1 c2 c3) (hs:(ns:Int)<=c0) (hp:np<=64) (ht:(cs.length:Int)<=c1) (h64:∀ i,i < cs.length->(cs.getD i []).length<=64) (h2:∀ i j,i < cs.length->j < (cs.getD i []).length->Qs np ((cs.getD i []).getD j (0,[]))=false):Qo c0 c1 c2 c3 ns np cs=0:=by
 unfold Qo;rw [Q9 (by rintro (k|k);exact k h;omega),Q9 (by omega),Q9 (by rw [Lk h64];decide),Q9 (by rw [Md (d:=[]) (λ i hi=>Md (d:=(0,[])) (λ j hj=>h2 i j hi hj))];decide)]
structure Tm (c0 c1 c2 c3:Int) (ns np:Nat) (cs:List (List (Int×List Nat))):Prop where
 cf:Y1 c0 c1 c2 c3
 s:(ns:Int)<=c0
 p:np<=64
 t:(cs.length:Int)<=c1
 l:∀ i,i < cs.length->(cs.getD i []).length<=64
 c:∀ i j,i < cs.length->j < (cs.getD i []).length->0<=((cs.getD i []).getD j (0,[])).1/\((cs.getD i []).getD j (0,[])).1 < np/\((cs.getD i []).getD j (0,[])).2.length<=8
theorem Ki {α:Type} {l:List α} {d:α} {i:Nat} (hi:i < l.length):l.getD i d∈l:=by
 rw [G_,List.getElem?_eq_getElem hi];exact List.getElem_mem hi
theorem Ol (h:Qo c0 c1 c2 c3 ns np cs=0):Tm c0 c1 c2 c3 ns np cs:=by
 by_cases h1:¬ Y1 c0 c1 c2 c3\/c0 < ns
 ·rw [Hj h1] at h;omega
 have hc:Y1 c0 c1 c2 c3:=Decidable.not_not.1 (λ k=>h1 (.inl k));have hs:(ns:Int)<=c0:=by have:¬ c0 < ns:=λ k=>h1 (.inr k);omega
 by_cases h2:64 < np\/c1 < cs.length
 ·rw [Br hc hs h2] at h;omega
 have hp:np<=64:=by omega
 have ht:(cs.length:Int)<=c1:=by omega
 have hl:∀ i,i < cs.length->(cs.getD i []).length<=64:=by
  intro i hi
  by_cases k:64 < (cs.getD i []).length
  ·rw [Dw hc hs hp ht hi k] at h;omega
  ·omega
 refine ⟨hc,hs,hp,ht,hl,λ i j hi hj=>?_⟩;cases hb:Qs np ((cs.getD i []).getD j (0,[])) with
 |true=>rw [Dx hc hs hp ht hl hi hj hb] at h;omega
 |false=>
  unfold Qs at hb;simp only [Bool.or_eq_false_iff,decide_eq_false_iff_not] at hb;omega
end
section
variable {w w':W} {c0 c1 c2 c3:Int} {ns np cs' cp ct:Nat} {cs:List (List (Int×List Nat))} {sa ap zq:Option Addr} {vt:Value}
theorem wrong_a (h:¬ Y1 c0 c1 c2 c3):Calls N 38 #[A_ #[U Y c0,U Y c1,U Y c2,U Y c3,L sa ns cs',L ap np cp,L zq cs.length ct]] w λ e w'=>e=R_ (U Y (Qo c0 c1 c2 c3 ns np cs))/\Ze [] w w':=by
 have hr:Qo c0 c1 c2 c3 ns np cs=1:=Hj (.inl h);rw [hr];have hP:=Ep c0 c1 c2 c3 h;clear h hr;go_enter func38,ntmps38;go_wp2_with fail;refine (hP _).mono ?_;rintro e w1 ⟨rfl,m1⟩;have M1:=Zh_ (((Zr_ _ w).alloc (X #[U Y c0,U Y c1,U Y c2,U Y c3,L sa ns cs',L ap np cp,L zq cs.length ct] 28)).trans m1);clear hP m1;go_wp2;go_ret;exact ⟨J,by first|exact M1.out|exact M1.out.alloc _⟩
theorem wrong_b (hc:Y1 c0 c1 c2 c3) (h:c0 < ns):Calls N 38 #[A_ #[U Y c0,U Y c1,U Y c2,U Y c3,L sa ns cs',L ap np cp,L zq cs.length ct]] w λ e w'=>e=R_ (U Y (Qo c0 c1 c2 c3 ns np cs))/\Ze [] w w':=by
 rw [Hj (.inr h)];have hP:=Ue c0 c1 c2 c3 hc;have hc8:c1<=8:=hc.2.2.2.1;have hd1:decide ((ns:Int) > c0)=true:=decide_eq_true (by omega);go_enter func38,ntmps38;go_wp2_with fail;refine (hP _).mono ?_;rintro e w1 ⟨rfl,m1⟩;have M1:=Zh_ (((Zr_ _ w).alloc (X #[U Y c0,U Y c1,U Y c2,U Y c3,L sa ns cs',L ap np cp,L zq cs.length ct] 28)).trans m1);have B1:=m1.at (Zc w (X #[U Y c0,U Y c1,U Y c2,U Y c3,L sa ns cs',L ap np cp,L zq cs.length ct] 28)) (by simp);obtain ⟨k,hk⟩:∃ k,k=w.heap.size:=⟨_,J⟩;go_upto_region 2 with fail;have B2:=Zf (X #[U Y 0,U Y 1,U Y 2,U Y 3,U Y (3+c1),U Y (3+c1+3 * c0)] 74) B1;have M2:=Zh_ (M1.out.alloc (X #[U Y 0,U Y 1,U Y 2,U Y 3,U Y (3+c1),U Y (3+c1+3 * c0)] 74));clear M1 m1 B1 hP;generalize w1.alloc (X #[U Y 0,U Y 1,U Y 2,U Y 3,U Y (3+c1),U Y (3+c1+3 * c0)] 74)=w2 at *
 rw [<-hk] at B2 ⊢
 have x0:=Za (i:=0) B2 J;have x1:=Za (i:=1) B2 J;have x4:=Za (i:=4) B2 J;have x5:=Za (i:=5) B2 J;have x6:=Za (i:=6) B2 J;have HB2:=Zh_ B2;have HK:=Zh_ hk;clear B2 hk;go_wp2;go_ret;exact ⟨J,M2.out⟩
theorem wrong_d (hc:Y1 c0 c1 c2 c3) (hs:(ns:Int)<=c0) (h:64 < np):Calls N 38 #[A_ #[U Y c0,U Y c1,U Y c2,U Y c3,L sa ns cs',L ap np cp,L zq cs.length ct]] w λ e w'=>e=R_ (U Y (Qo c0 c1 c2 c3 ns np cs))/\Ze [] w w':=by
 rw [Br hc hs (.inl h)];have hP:=Ue c0 c1 c2 c3 hc;have hc8:c1<=8:=hc.2.2.2.1;have hd1:decide ((ns:Int) > c0)=false:=D9 (by omega);have hd2:decide ((np:Int) > 64)=true:=decide_eq_true (by omega);go_enter func38,ntmps38;go_wp2_with fail;refine (hP _).mono ?_;rintro e w1 ⟨rfl,m1⟩;have M1:=Zh_ (((Zr_ _ w).alloc (X #[U Y c0,U Y c1,U Y c2,U Y c3,L sa ns cs',L ap np cp,L zq cs.length ct] 28)).trans m1);have B1:=m1.at (Zc w (X #[U Y c0,U Y c1,U Y c2,U Y c3,L sa ns cs',L ap np cp,L zq cs.length ct] 28)) (by simp);obtain ⟨k,hk⟩:∃ k,k=w.heap.size:=⟨_,J⟩;go_upto_region 2 with fail;have B2:=Zf (X #[U Y 0,U Y 1,U Y 2,U Y 3,U Y (3+c1),U Y (3+c1+3 * c0)] 74) B1;have M2:=Zh_ (M1.out.alloc (X #[U Y 0,U Y 1,U Y 2,U Y 3,U Y (3+c1),U Y (3+c1+3 * c0)] 74));clear M1 m1 B1 hP;generalize w1.alloc (X #[U Y 0,U Y 1,U Y 2,U Y 3,U Y (3+c1),U Y (3+c1+3 * c0)] 74)=w2 at *
 rw [<-hk] at B2 ⊢
 have x0:=Za (i:=0) B2 J;have x1:=Za (i:=1) B2 J;have x4:=Za (i:=4) B2 J;have x5:=Za (i:=5) B2 J;have x6:=Za (i:=6) B2 J;have HB2:=Zh_ B2;have HK:=Zh_ hk;clear B2 hk;go_wp2;go_ret;exact ⟨J,M2.out⟩
theorem wrong_e (hc:Y1 c0 c1 c2 c3) (hs:(ns:Int)<=c0) (hp:np<=64) (h:c1 < cs.length):Calls N 38 #[A_ #[U Y c0,U Y c1,U Y c2,U Y c3,L sa ns cs',L ap np cp,L zq cs.length ct]] w λ e w'=>e=R_ (U Y (Qo c0 c1 c2 c3 ns np cs))/\Ze [] w w':=by
 rw [Br hc hs (.inr h)];have hP:=Ue c0 c1 c2 c3 hc;have hc8:c1<=8:=hc.2.2.2.1;have hd1:decide ((ns:Int) > c0)=false:=D9 (by omega);have hd2:decide ((np:Int) > 64)=false:=D9 (by omega);have hd3:decide ((cs.length:Int) > c1)=true:=decide_eq_true (by omega);go_enter func38,ntmps38;go_wp2_with fail;refine (hP _).mono ?_;rintro e w1 ⟨rfl,m1⟩;have M1:=Zh_ (((Zr_ _ w).alloc (X #[U Y c0,U Y c1,U Y c2,U Y c3,L sa ns cs',L ap np cp,L zq cs.length ct] 28)).trans m1);have B1:=m1.at (Zc w (X #[U Y c0,U Y c1,U Y c2,U Y c3,L sa ns cs',L ap np cp,L zq cs.length ct] 28)) (by simp);obtain ⟨k,hk⟩:∃ k,k=w.heap.size:=⟨_,J⟩;go_upto_region 2 with fail;have B2:=Zf (X #[U Y 0,U Y 1,U Y 2,U Y 3,U Y (3+c1),U Y (3+c1+3 * c0)] 74) B1;have M2:=Zh_ (M1.out.alloc (X #[U Y 0,U Y 1,U Y 2,U Y 3,U Y (3+c1),U Y (3+c1+3 * c0)] 74));clear M1 m1 B1 hP;generalize w1.alloc (X #[U Y 0,U Y 1,U Y 2,U Y 3,U Y (3+c1),U Y (3+c1+3 * c0)] 74)=w2 at *
 rw [<-hk] at B2 ⊢
 have x0:=Za (i:=0) B2 J;have x1:=Za (i:=1) B2 J;have x4:=Za (i:=4) B2 J;have x5:=Za (i:=5) B2 J;have x6:=Za (i:=6) B2 J;have HB2:=Zh_ B2;have HK:=Zh_ hk;clear B2 hk;go_wp2;go_ret;exact ⟨J,M2.out⟩
theorem wrong_f (hc:Y1 c0 c1 c2 c3) (hs:(ns:Int)<=c0) (hp:np<=64) (ht:(cs.length:Int)<=c1) (hT:ThrRd w (L zq cs.length ct) cs):Calls N 38 #[A_ #[U Y c0,U Y c1,U Y c2,U Y c3,L sa ns cs',L ap np cp,L zq cs.length ct]] w λ e w'=>e=R_ (U Y (Qo c0 c1 c2 c3 ns np cs))/\Ze [] w w':=by
 obtain ⟨rv,hrv⟩:∃ n,n=Qo c0 c1 c2 c3 ns np cs:=⟨_,J⟩;rw [<-hrv];have HL:=Zh_ (show ∀ i,i < cs.length->64 < (cs.getD i []).length->rv=160 from λ i hi h=>by rw [hrv];exact Dw hc hs hp ht hi h);have HB:=Zh_ (show (∀ i,i < cs.length->(cs.getD i []).length<=64)->∀ i j,i < cs.length->j < (cs.getD i []).length->Qs np ((cs.getD i []).getD j (0,[]))=true->rv=1 from λ h i j hi hj hb=>by rw [hrv];exact Dx hc hs hp ht h hi hj hb);have HN:=Zh_ (show (∀ i,i < cs.length->(cs.getD i []).length<=64)->(∀ i j,i < cs.length->j < (cs.getD i []).length->Qs np ((cs.getD i []).getD j (0,[]))=false)->rv=0 from λ h k=>by rw [hrv];exact Dv hc hs hp ht h k);clear hrv;obtain ⟨a_,c_,he,hT⟩:=hT;simp only [Value.slice.injEq] at he;obtain ⟨rfl,-,rfl⟩:=he;have HT:=Zh_ hT;clear hT;have hP:=Ue c0 c1 c2 c3 hc;have hc8:c1<=8:=hc.2.2.2.1;have hd1:decide ((ns:Int) > c0)=false:=D9 (by omega);have hd2:decide ((np:Int) > 64)=false:=D9 (by omega);have hd3:decide ((cs.length:Int) > c1)=false:=D9 (by omega);go_enter func38,ntmps38;go_wp2_with fail;refine (hP _).mono ?_;rintro e w1 ⟨rfl,m1⟩;have M1:=Zh_ (((Zr_ _ w).alloc (X #[U Y c0,U Y c1,U Y c2,U Y c3,L sa ns cs',L ap np cp,L zq cs.length ct] 28)).trans m1);have B1:=m1.at (Zc w (X #[U Y c0,U Y c1,U Y c2,U Y c3,L sa ns cs',L ap np cp,L zq cs.length ct] 28)) (by simp);obtain ⟨k,hk⟩:∃ k,k=w.heap.size:=⟨_,J⟩;go_upto_region 2 with fail;have B2:=Zf (X #[U Y 0,U Y 1,U Y 2,U Y 3,U Y (3+c1),U Y (3+c1+3 * c0)] 74) B1;have M2:=Zh_ (M1.out.alloc (X #[U Y 0,U Y 1,U Y 2,U Y 3,U Y (3+c1),U Y (3+c1+3 * c0)] 74));clear M1 m1 B1 hP;generalize w1.alloc (X #[U Y 0,U Y 1,U Y 2,U Y 3,U Y (3+c1),U Y (3+c1+3 * c0)] 74)=w2 at *
 rw [<-hk] at B2 ⊢
 have x0:=Za (i:=0) B2 J;have x1:=Za (i:=1) B2 J;have x4:=Za (i:=4) B2 J;have x5:=Za (i:=5) B2 J;have x6:=Za (i:=6) B2 J;have HB2:=Zh_ B2;have HK:=Zh_ hk;clear B2 hk;go_upto_region 6 with fail;go_wp2_with fail
 go_loopw [44] (λ i wx=>∃ z:Nat,z<=cs.length/\i=U Y z/\Ze [] w2 wx/\∀ i,i < z->(cs.getD i []).length<=64) (λ i _=>cs.length - (intOf i).toNat)
 case atStart=>exact ⟨0,by omega,rfl,Zr_ _ _,λ i hi=>absurd hi (by omega)⟩
 case round=>
  clear x0 x1 x4 x5 x6;obtain ⟨z,hz,rfl,m,hall⟩:=hrel;have HM:=Zh_ m;have HA:=Zh_ hall;have HG:=Zh_ (HB2.out);clear hall
  by_cases hlt:z < cs.length
  ·have d4:decide ((z:Int) < (cs.length:Int))=true:=decide_eq_true (by omega);obtain ⟨g,oo,u,rfl,hg,h1,h2⟩:=HT.out z hlt;obtain ⟨a,ca,rfl,_⟩:=h2;have h1':=Z5 (M2.out.trans HM.out) hg (by simp) h1
   by_cases hbig:64 < (cs.getD z []).length
   ·have hr:=HL.out z hlt hbig;have hl6:decide (((cs.getD z []).length:Int) > 64)=true:=decide_eq_true (by omega);obtain ⟨q,hq⟩:∃ q,q=(cs.getD z []).length:=⟨_,J⟩;rw [<-hq] at h1' hl6;subst hr;clear h1 hq m hg hbig;go_wp2;go_ret;exact ⟨J,M2.out.trans HM.out⟩
   ·have hl6:decide (((cs.getD z []).length:Int) > 64)=false:=D9 (by omega);have HA2:=Zh_ (show ∀ i,i < z+1->(cs.getD i []).length<=64 from λ i hi=>by
     by_cases e:i=z
     ·rw [e];omega
     ·exact HA.out i (by omega))
    obtain ⟨q,hq⟩:∃ q,q=(cs.getD z []).length:=⟨_,J⟩;rw [<-hq] at h1' hl6;clear h1 hq m hg hbig;go_wp2_with fail;go_roundw
    case rel=>exact ⟨z+1,by omega,by go_num,HM.out,HA2.out⟩
    case measure=>simp [intOf];omega
  ·have d4:decide ((z:Int) < (cs.length:Int))=false:=D9 (by omega);have H64:=Zh_ (show ∀ i,i < cs.length->(cs.getD i []).length<=64 from λ i hi=>HA.out i (by omega));have x6:=Za (i:=6) (HM.out.at HB2.out (by simp)) J;clear m;go_wp2_with fail;have M3:=Zh_ (M2.out.trans HM.out);have B3:=Zh_ (HM.out.at HB2.out (by simp));clear HM x6 d4 hlt hz M2 HB2 HA HL;generalize wr=w3 at *
   go_loopw [55] (λ i wx=>∃ z:Nat,z<=cs.length/\i=U Y z/\Ze [] w3 wx/\∀ i j,i < z->j < (cs.getD i []).length->Qs np ((cs.getD i []).getD j (0,[]))=false) (λ i _=>cs.length - (intOf i).toNat)
   case atStart=>exact ⟨0,by omega,rfl,Zr_ _ _,λ i j hi=>absurd hi (by omega)⟩
   case round=>
    obtain ⟨y,hy,rfl,m,hall⟩:=hrel;have HM:=Zh_ m;have HA:=Zh_ hall;clear hall
    by_cases hlt:y < cs.length
    ·have d4:decide ((y:Int) < (cs.length:Int))=true:=decide_eq_true (by omega);obtain ⟨g,oo,u,rfl,hg,h1,h2⟩:=HT.out y hlt;obtain ⟨a,ca,rfl,h2⟩:=h2;have h1':=Z5 (M3.out.trans HM.out) hg (by simp) h1;obtain ⟨l,hl⟩:∃ l,l=cs.getD y []:=⟨_,J⟩;rw [<-hl] at h1' h2;have HBL:=Zh_ (show ∀ j,j < l.length->Qs np (l.getD j (0,[]))=true->rv=1 from λ j hj hb=>HB.out H64.out y j hlt (by rw [<-hl];exact hj) (by rw [<-hl];exact hb));have hl64:l.length<=64:=by rw [hl];exact H64.out y hlt
     have HLL:=Zh_ hl;have H2:=Zh_ h2;clear h1 hg m hl h2;go_wp2_with fail
     go_loopw [61] (λ i wx=>∃ j:Nat,j<=l.length/\i=U Y j/\Ze [] w3 wx/\∀ i,i < j->Qs np (l.getD i (0,[]))=false) (λ i _=>l.length - (intOf i).toNat)
     case atStart=>exact ⟨0,by omega,rfl,HM.out,λ i hi=>absurd hi (by omega)⟩
     case round=>
      obtain ⟨j,hj,rfl,m,hall⟩:=hrel;have HM4:=Zh_ m;have HA4:=Zh_ hall;clear h1' hall
      by_cases hlj:j < l.length
      ·have d5:decide ((j:Int) < (l.length:Int))=true:=decide_eq_true (by omega);obtain ⟨h,o5,aa,cc,rfl,hh,k1,k2⟩:=H2.out j hlj;have hbad:Qs np (l.getD j (0,[]))=(decide ((l.getD j (0,[])).1 < 0) || decide ((np:Int)<=(l.getD j (0,[])).1) || decide (8 < (l.getD j (0,[])).2.length)):=J;have HR:=Zh_ (HBL.out j hlj);have HG2:=Zh_ (show Qs np (l.getD j (0,[]))=false->∀ i,i < j+1->Qs np (l.getD i (0,[]))=false from λ hb i hi=>by
        by_cases e:i=j
        ·rw [e];exact hb
        ·exact HA4.out i (by omega))
       rw [hbad] at HR HG2;obtain ⟨p,hp'⟩:∃ p,p=(l.getD j (0,[])).1:=⟨_,J⟩;obtain ⟨n,hn⟩:∃ n,n=(l.getD j (0,[])).2.length:=⟨_,J⟩;rw [<-hp',<-hn] at HR HG2;rw [<-hp'] at k1;rw [<-hn] at k2;have k1':=Z5 (M3.out.trans HM4.out) hh (by simp) k1;have k2':=Z5 (M3.out.trans HM4.out) hh (by simp) k2;clear k1 k2 hn hp' hh m hbad;have B5:=Zf (X #[U Y p,L aa n cc] 63) (HM4.out.at B3.out (by simp));have M5:=Zh_ (HM4.out.alloc (X #[U Y p,L aa n cc] 63));have x5:=Za (i:=5) B5 J;clear B5
       by_cases q1:p < 0
       ·have hr:=HR.out (by simp [q1]);have e1:decide (p < 0)=true:=decide_eq_true q1;subst hr;clear HR HG2 q1 HBL HB HN;go_upto_region 18 with fail;clear k1' k2';go_wp2_with fail;go_ret;exact ⟨J,M3.out.trans M5.out⟩
       have e1:decide (p < 0)=false:=D9 q1
       by_cases q2:(np:Int)<=p
       ·have hr:=HR.out (by simp [q2]);have e2:decide (p>=(np:Int))=true:=decide_eq_true (by omega);subst hr;clear HR HG2 q1 q2 HBL HB HN;go_upto_region 18 with fail;clear k1' k2';go_wp2_with fail;go_ret;exact ⟨J,M3.out.trans M5.out⟩
       have e2:decide (p>=(np:Int))=false:=D9 (by omega)
       by_cases q3:8 < n
       ·have hr:=HR.out (by simp [q3]);have e3:decide ((n:Int) > 8)=true:=decide_eq_true (by omega);subst hr;clear HR HG2 q1 q2 q3 HBL HB HN;go_upto_region 18 with fail;clear k1' k2';go_wp2_with fail;go_ret;exact ⟨J,M3.out.trans M5.out⟩
       have e3:decide ((n:Int) > 8)=false:=D9 (by omega);have HA5:=Zh_ (HG2.out (by simp [q1,q2,q3]));clear q1 q2 q3 HR HG2;go_upto_region 18 with fail;clear k1' k2';go_wp2_with fail;go_roundw
       case rel=>exact ⟨j+1,by omega,by go_num,M5.out,HA5.out⟩
       case measure=>simp [intOf];omega
      ·have d5:decide ((j:Int) < (l.length:Int))=false:=D9 (by omega);have HA5:=Zh_ (show ∀ i j,i < y+1->j < (cs.getD i []).length->Qs np ((cs.getD i []).getD j (0,[]))=false from λ i' j' hi hj=>by
        by_cases e:i'=y
        ·rw [e] at hj ⊢
         rw [<-HLL.out] at hj ⊢
         exact HA4.out j' (by omega)
        ·exact HA.out i' j' (by omega) hj)
       clear m;go_wp2_with fail;go_roundw
       case rel=>exact ⟨y+1,by omega,by go_num,HM4.out,HA5.out⟩
       case measure=>simp [intOf];omega
    ·have d4:decide ((y:Int) < (cs.length:Int))=false:=D9 (by omega);have hr:=HN.out H64.out (λ i j hi hj=>HA.out i j (by omega) hj);subst hr;clear m HB HN;go_wp2;go_ret;exact ⟨J,M3.out.trans HM.out⟩
theorem wrong_c (hT:ThrRd w vt cs):Calls N 38 #[A_ #[U Y c0,U Y c1,U Y c2,U Y c3,L sa ns cs',L ap np cp,vt]] w λ e w'=>e=R_ (U Y (Qo c0 c1 c2 c3 ns np cs))/\Ze [] w w':=by
 obtain ⟨zq,ct,rfl,hT'⟩:=id hT
 by_cases hc:Y1 c0 c1 c2 c3
 ·by_cases hs:c0 < ns
  ·exact wrong_b hc hs
  ·by_cases hp:64 < np
   ·exact wrong_d hc (by omega) hp
   ·by_cases ht:c1 < cs.length
    ·exact wrong_e hc (by omega) (by omega) ht
    ·exact wrong_f hc (by omega) (by omega) (by omega) hT
 ·exact wrong_a hc
end
section
variable {w w':W} {c0 c1 c2 c3:Int} {ns np cs' cp ct:Nat} {cs:List (List (Int×List Nat))} {sa ap zq:Option Addr} {vt:Value}
end
section
theorem Ca {w:W} {o:Oper} {a:Act} {K:Value->W->Prop} (x:Tmp) (ho:o.op=.call {callee:=.builtin .append,args:=#[.const (L O 0 0),.tmp x],argTypes:=#[108,108]})
  (v:Value) (n:Nat) (xs:List Value) (hx:a.eval (.tmp x)=v) (hrow:Bg w 3 v n xs) (hone:∀ u∈xs,u.oneCell'=true) (hb:n<=5864062014635)
  (h:∀ u w',w'.ownsRow 0 106 3 u n xs->(∀ g,u.ownBlock=I g->w.heap.size<=g)->Ze [] w w'->K u w'):J4 N K ((execOp a.eval o).run N w):=by
 rcases hrow.2 with ⟨hv,h0⟩|⟨ad,cap,hv,hcs⟩
 ·subst h0;have hxs:xs=[]:=List.eq_nil_of_length_eq_zero (by simpa using hrow.1);rw [hv] at hx;have e:a.tmps[x]?.getD undef=L O 0 0:=by simpa [Act.eval] using hx
  obtain ⟨dst,op,ty,pos,after,guard⟩:=o;simp only at ho;subst ho;have hK:=h (L O 0 0) w (by rw [hxs];exact World.ownsRow_nil _ _ _ _) (by simp [Value.ownBlock]) (Zr_ _ _);clear h hx;go_simp;exact hK
 ·rw [hv] at hx;have hl:xs.length=n * 3:=hrow.1;obtain ⟨i0,hi0,hz0,hz1,hz2⟩:=info_parts T7;refine Y2 (.const (L O 0 0)) (.tmp x) 108 ho 0 106 i0 (A_ #[U Y 0,U Y 0,Z V 0]) 3 24 underlying108 hi0 hz0 hz1 hz2 J (by decide) (L O 0 0) 0 [] J (World.ownsRow_nil _ _ _ _) ad n cap xs hx hl (λ j u hu=>(hcs j u hu).2) hone (by unfold maxLen;omega) (by omega) (Nat.zero_le _) ?_;intro v' w' h2 h3 h5;obtain ⟨u,hu,k1,k2,k3⟩:=Vl.of (t:=106) (z:=3) (n:=n) (xs:=xs) (by simpa using h2) h3 h5;simp only [Ending.returned.injEq] at hu;subst hu;exact h _ _ k1 k2 k3
theorem Lw {w:W} {o:Oper} {a:Act} {K:Value->W->Prop} (x:Tmp) (ho:o.op=.call {callee:=.builtin .append,args:=#[.const (L O 0 0),.tmp x],argTypes:=#[24,24]})
  (v:Value) (n:Nat) (xs:List Value) (hx:a.eval (.tmp x)=v) (hrow:Bg w 1 v n xs) (hone:∀ u∈xs,u.oneCell'=true) (hb:n<=4096)
  (h:∀ u w',w'.ownsRow 0 51 1 u n xs->(∀ g,u.ownBlock=I g->w.heap.size<=g)->Ze [] w w'->K u w'):J4 N K ((execOp a.eval o).run N w):=by
 rcases hrow.2 with ⟨hv,h0⟩|⟨ad,cap,hv,hcs⟩
 ·subst h0;have hxs:xs=[]:=List.eq_nil_of_length_eq_zero (by simpa using hrow.1);rw [hv] at hx;have e:a.tmps[x]?.getD undef=L O 0 0:=by simpa [Act.eval] using hx
  obtain ⟨dst,op,ty,pos,after,guard⟩:=o;simp only at ho;subst ho;have hK:=h (L O 0 0) w (by rw [hxs];exact World.ownsRow_nil _ _ _ _) (by simp [Value.ownBlock]) (Zr_ _ _);clear h hx;go_simp;exact hK
 ·rw [hv] at hx;have hl:xs.length=n * 1:=hrow.1;obtain ⟨i0,hi0,hz0,hz1,hz2⟩:=info_parts Up;refine Y2 (.const (L O 0 0)) (.tmp x) 24 ho 0 51 i0 (Z V 0) 1 8 underlying24 hi0 hz0 hz1 hz2 J (by decide) (L O 0 0) 0 [] J (World.ownsRow_nil _ _ _ _) ad n cap xs hx hl (λ j u hu=>(hcs j u hu).2) hone (by unfold maxLen;omega) (by omega) (Nat.zero_le _) ?_;intro v' w' h2 h3 h5;obtain ⟨u,hu,k1,k2,k3⟩:=Vl.of (t:=51) (z:=1) (n:=n) (xs:=xs) (by simpa using h2) h3 h5;simp only [Ending.returned.injEq] at hu;subst hu;exact h _ _ k1 k2 k3
theorem code_one (l:List Xg):∀ u∈Yl l,u.oneCell'=true:=by
 intro u hu;unfold Yl at hu;simp at hu;obtain ⟨i,_,hu⟩:=hu;rcases hu with rfl|rfl|rfl <;> rfl
end
section
attribute [local go_sem] Zi
variable {a b:Nat} {s:Zh} {w w0:W} {xs:List Nat}
theorem Eb (hM:Zj 137 w a b s) (p0 p1 p2 p3 p4 p5:Int) (v:Value) (hv:FX w0 v xs) (m0:Ze [] w0 w) (ha:w0.heap.size<=a) (hb:w0.heap.size<=b) (h1:0 < xs.length) (h2:xs.length<=256) (h3:0<=p4) (h4:p4<=4096) (h5:p4+3 * xs.length<=s.ws.length):
  Calls N 41 #[E (I ⟨a,0,O⟩),A_ #[U Y p0,U Y p1,U Y p2,U Y p3,U Y p4,U Y p5],v] w λ e w'=>e=R_ (U Y 0)/\Zj 137 w' a b (Vp s p4 xs xs.length)/\Ze [a,b] w w':=by
 obtain ⟨fa,cap,rfl,hf⟩:=hv;obtain ⟨g,o,rfl,hg,-⟩:=hf 0 h1;have hcs:∀ i,i < xs.length->w.cell? ⟨g,o+i,O⟩=I (Z V (xs.getD i 0)):=by
  intro i hi;obtain ⟨g',o',e,hg',hc⟩:=hf i hi;simp only [Option.some.injEq,Addr.mk.injEq] at e;obtain ⟨rfl,rfl,-⟩:=e;exact Z5 m0 hg' (by simp) hc
 have hgl:g < w.heap.size:=Nat.lt_of_lt_of_le hg m0.size;have hga:g≠a:=by omega
 have hgb:g≠b:=by omega
 have HC:=Zh_ hcs;have hal:=hM.jf;have hbl:=hM.je;clear hf hcs hg m0 ha hb;go_enter func41,ntmps41;go_wp2_with fail;refine (Gr _ _ _ _ _ _ 0 0 (by omega) (by omega) h3 h4 (by omega) (by omega) _).mono ?_;rintro e w1 ⟨rfl,rfl⟩;go_wp2_with fail;refine (len_cq ((hM.alloc _).alloc _)).mono ?_;rintro e w1 ⟨rfl,rfl⟩;go_wp2_with fail;have M0:=(hM.alloc (X #[U Y p0,U Y p1,U Y p2,U Y p3,U Y p4,U Y p5] 74)).alloc (X #[U Y p0,U Y p1,U Y p2,U Y p3,U Y p4,U Y p5] 74);have D0:Ze [a,b] w ((w.alloc (X #[U Y p0,U Y p1,U Y p2,U Y p3,U Y p4,U Y p5] 74)).alloc (X #[U Y p0,U Y p1,U Y p2,U Y p3,U Y p4,U Y p5] 74)):=((Zr_ _ _).alloc _).alloc _;clear hM
 go_loopw [7,36] (λ t v wr=>∃ i:Nat,i<=xs.length/\t=U Y (p4+3 * (i:Int))/\v=U Y i/\Zj 137 wr a b (Vp s p4 xs i)/\Ze [a,b] w wr) (λ _ v _=>xs.length - (intOf v).toNat)
 case atStart=>exact ⟨0,by omega,by simp,rfl,M0,D0⟩
 case round=>
  clear M0 D0;obtain ⟨i,hi,rfl,rfl,M,D⟩:=hrel
  by_cases hlt:i < xs.length
  ·have cg:wr.cell? ⟨g,o+i,O⟩=I (Z V (xs.getD i 0)):=Z5 D hgl (by simp [hga,hgb]) (HC.out i hlt);obtain ⟨x,hx⟩:∃ x,x=xs.getD i 0:=⟨_,J⟩;rw [<-hx] at cg;have HX:=Zh_ hx;clear hx;go_wp2_with fail;refine (Sm M (p4+3 * (i:Int)) 0).mono ?_;rintro e w2 ⟨rfl,M2,d2⟩;go_wp2_with fail;refine (Fe x _).mono ?_;rintro e w3 ⟨rfl,hw3⟩;have hw3':=hw3.symm;subst hw3';go_wp2_with fail;refine (Sm M2 (p4+3 * (i:Int)+1) (Zq x:Int)).mono ?_;rintro e w4 ⟨rfl,M4,d4⟩;go_wp2_with fail;refine (Sm M4 (p4+3 * (i:Int)+2) 0).mono ?_;rintro e w5 ⟨rfl,M5,d5⟩;have D5:=((D.trans d2).trans d4).trans d5;have E5:Zj 137 w5 a b (Vp s p4 xs (i+1)):=by rw [Vp,<-HX.out];exact M5
   clear M M2 M4 M5 D d2 d4 d5 cg;go_wp2;go_roundw
   case rel=>exact ⟨i+1,by omega,by congr 1;omega,by go_num,E5,D5⟩
   case measure=>simp [intOf];omega
  ·obtain rfl:i=xs.length:=by omega
   go_wp2;go_ret;exact ⟨J,M,D⟩
theorem startx_c (hM:Zj 137 w a b s) (p0 p1 p2 p3 p4 p5:Int) (v:Value) (hv:FX w0 v xs) (m0:Ze [] w0 w) (ha:w0.heap.size<=a) (hb:w0.heap.size<=b) (h2:xs.length<=256) (h3:0<=p4) (h4:p4<=4096) (h5:p4+3 * xs.length<=s.ws.length):
  Calls N 41 #[E (I ⟨a,0,O⟩),A_ #[U Y p0,U Y p1,U Y p2,U Y p3,U Y p4,U Y p5],v] w λ e w'=>e=R_ (U Y 0)/\Zj 137 w' a b (Qx s p4 xs)/\Ze [a,b] w w':=by
 have e0:Sc s p4 xs=0:=by
  unfold Sc;rw [Q9 (by omega)];split
  ·rfl
  ·rw [Q9 (by omega)]
 have e1:Qx s p4 xs=Vp s p4 xs xs.length:=by unfold Qx;rw [P9 e0]
 rw [e1]
 by_cases h1:xs.length=0
 ·obtain ⟨fa,cap,rfl,hf⟩:=hv;rw [h1];exact Sb (xs:=[]) hM p0 p1 p2 p3 p4 p5 _ ⟨fa,cap,J,.inl J⟩ J
 ·exact Eb hM p0 p1 p2 p3 p4 p5 v hv m0 ha hb (by omega) h2 h3 h4 h5
end
section
variable {w w0 w':W}
theorem Yb.jr {n0:Nat} {t ty:TypeId} {z n:Nat} {xs:List Value} {v:Value} {g:Nat} {c:Array Value} (h:Yb n0 t z n xs v w) (hg:w.heap[g]? =I (.cells c ty (0,0))) (ht:t≠ty) (m:Ze [g] w w'):Yb n0 t z n xs v w':=
 ⟨Zt h.1 m (λ k hk hm=>by
  simp at hm;subst hm;have:=Zp hg;rw [Yf h.1 hk] at this;exact ht (Zo_ this)),h.2⟩
theorem Yb.kq {n0 z n z' k:Nat} {t ty:TypeId} {xs ys:List Value} {v u:Value} (h:Yb n0 t z n xs v w) (ht:t≠ty) (hu:w.ownsRow 0 ty z' u k ys) (m:Ze u.ownBlock.toList w w'):Yb n0 t z n xs v w':=by
 rcases hu.2 with ⟨e,_⟩|⟨g,cap,cur,e,_,hg,_⟩
 ·rw [e] at m;exact h.mod (by simpa [Value.ownBlock] using m)
 ·rw [e] at m;exact h.jr hg ht (by simpa [Value.ownBlock] using m)
theorem Xs {z' k n:Nat} {t ty:TypeId} {ys:List Value} {u:Value} {c:Array Value} (h:w.heap[n]? =I (.cells c t (0,0))) (ht:t≠ty) (hu:w.ownsRow 0 ty z' u k ys) (m:Ze u.ownBlock.toList w w'):w'.heap[n]? =I (.cells c t (0,0)):=by
 refine m.at h (λ hm=>?_);have:=Yf hu (Option.mem_toList.1 hm);rw [Zp h] at this;exact ht (Zo_ this)
theorem Bg.zy {S:List Nat} {z n:Nat} {v:Value} {xs:List Value} (h:Bg w0 z v n xs) (m:Ze S w0 w') (hS:∀ k∈S,w0.heap.size<=k):Bg w' z v n xs:=by
 refine ⟨h.1,?_⟩;rcases h.2 with e|⟨ad,cap,e,h⟩
 ·exact .inl e
 ·refine .inr ⟨ad,cap,e,λ j u hu=>?_⟩;obtain ⟨h1,h2⟩:=h j u hu;exact ⟨Nat.lt_of_lt_of_le h1 m.size,Z5 m (a:=ad.add j) (by rw [G9];exact h1) (by rw [G9];intro hm;have:=hS _ hm;omega) h2⟩
def newF (x c q n0:Nat) (av:Option Addr) (cv nd:Nat) (dl:List Value) (tag:Int) (u:Value) (ty z n:Nat) (xs:List Value) (ety:Nat):Nat->Value->W->Prop
 |0,v,_=>v=E (I ⟨x,0,O⟩)
 |1,v,_=>v=E (I ⟨x,0,O⟩)
 |2,v,_=>v=E (I ⟨x,0,O⟩)
 |3,v,_=>v=E (I ⟨x,c,O⟩)
 |4,v,_=>v=L av nd cv
 |5,v,_=>v=E (I ⟨q,0,O⟩)
 |6,v,_=>v=U Y tag
 |7,v,_=>v=E (I ⟨q,1,O⟩)
 |8,v,_=>v=u
 |9,v,w=>Yb n0 ty z n xs v w
 |10,v,w=>∃ ca cc,v=A_ #[U Y tag,L ca n cc]/\Yb n0 ty z n xs (L ca n cc) w
 |11,v,w=>∃ B ca cc,v=L (I ⟨B,0,O⟩) 1 1/\w.heap[B]? =I (X #[U Y tag,L ca n cc] ety (0,0))/\n0<=B/\Yb n0 ty z n xs (L ca n cc) w
 |12,v,w=>∃ cu,Yb n0 ty z n xs cu w/\w.ownsRow 0 ety 2 v (nd+1) (dl++[U Y tag,cu])/\∀ g,v.ownBlock=I g->(L av nd cv).ownBlock=I g\/n0<=g
 |13,v,_=>v=E (I ⟨x,0,O⟩)
 |14,v,_=>v=E (I ⟨x,c,O⟩)
 |_,_,_=>True
theorem Wq (x c q n0:Nat) (av:Option Addr) (cv nd:Nat) (dl:List Value) (tag:Int) (u:Value) (ty z n:Nat) (xs:List Value) (ety:Nat) (hg:∀ k∈(L av nd cv).ownBlock.toList,k < n0) (i j:Nat) (v:Value) (w w':W) (hij:i≠j) (h:newF x c q n0 av cv nd dl tag u ty z n xs ety i v w) (m:Kf (L av nd cv).ownBlock.toList 12 j w w'):newF x c q n0 av cv nd dl tag u ty z n xs ety i v w':=by
 match i,hij,h with
 |0,_,h=>exact h
 |1,_,h=>exact h
 |2,_,h=>exact h
 |3,_,h=>exact h
 |4,_,h=>exact h
 |5,_,h=>exact h
 |6,_,h=>exact h
 |7,_,h=>exact h
 |8,_,h=>exact h
 |9,_,h=>exact Yb.jo h (Xn m) hg
 |10,_,⟨ca,cc,h1,h2⟩=>exact ⟨ca,cc,h1,h2.jo (Xn m) hg⟩
 |11,_,⟨B,ca,cc,h1,h2,h3,h4⟩=>exact ⟨B,ca,cc,h1,(Xn m).at h2 (λ hm=>by have:=hg B hm;omega),h3,h4.jo (Xn m) hg⟩
 |12,hij,⟨cu,h1,h2,h3⟩=>exact ⟨cu,h1.jo (Xn m) hg,Yg h2 (Xr (Ne.symm hij) m),h3⟩
 |13,_,h=>exact h
 |14,_,h=>exact h
 |i+15,_,h=>trivial
theorem Ll (x c q n0:Nat) (av:Option Addr) (cv nd:Nat) (dl:List Value) (tag:Int) (u:Value) (ty z n:Nat) (xs:List Value) (ety:Nat) (i:Nat) (h:15<=i) (v:Value) (w:W):newF x c q n0 av cv nd dl tag u ty z n xs ety i v w:=by
 match i,h with
 |j+15,_=>trivial
theorem info110:(N.info? 110).map (λ i=>(i.zero,i.size,i.bytes))=I (I (A_ #[U Y 0,L O 0 0]),2,32):=by kernel_rfl
theorem info63:(N.info? 63).map (λ i=>(i.zero,i.size,i.bytes))=I (I (A_ #[U Y 0,L O 0 0]),2,32):=by kernel_rfl
theorem info83:(N.info? 83).map (λ i=>(i.zero,i.size,i.bytes))=I (I (E O),1,8):=by kernel_rfl
theorem Ta {B:Nat} {ty:TypeId} {x y:Value} (h:w.heap[B]? =I (X #[x,y] ty (0,0))):∀ (j:Nat) (u:Value),[x,y][j]? =I u->w.cell? ((⟨B,0,O⟩:Addr).add j)=I u:=by
 intro j u hj
 match j,hj with
 |0,hj=>simp at hj;subst hj;exact Za (i:=0) h J
 |1,hj=>simp at hj;subst hj;exact Za (i:=1) h J
def V2 (n0:Nat) (l:List (Int×List Xg)) (k:Nat) (v:Value) (w:W):Prop:=
 ∃ us:List Value,us.length=k/\Yb n0 110 2 k (Fp (l.take k) us) v w/\∀ j,j < k->Yb n0 106 3 (l.getD j (0,[])).2.length (Yl (l.getD j (0,[])).2) (us.getD j undef) w
def Vd (n0:Nat) (l:List (Int×List Nat)) (k:Nat) (v:Value) (w:W):Prop:=
 ∃ us:List Value,us.length=k/\Yb n0 63 2 k (Hh (l.take k) us) v w/\∀ j,j < k->Yb n0 51 1 (l.getD j (0,[])).2.length ((l.getD j (0,[])).2.map (Z V)) (us.getD j undef) w
theorem V2.mod {n0 k:Nat} {l:List (Int×List Xg)} {v:Value} (h:V2 n0 l k v w) (m:Ze [] w w'):V2 n0 l k v w':=by
 obtain ⟨us,h1,h2,h3⟩:=h;exact ⟨us,h1,h2.mod m,λ j hj=>(h3 j hj).mod m⟩
theorem Vd.mod {n0 k:Nat} {l:List (Int×List Nat)} {v:Value} (h:Vd n0 l k v w) (m:Ze [] w w'):Vd n0 l k v w':=by
 obtain ⟨us,h1,h2,h3⟩:=h;exact ⟨us,h1,h2.mod m,λ j hj=>(h3 j hj).mod m⟩
theorem V2.jr {n0 k g:Nat} {l:List (Int×List Xg)} {v:Value} {c:Array Value} {ty:TypeId} (h:V2 n0 l k v w) (hg:w.heap[g]? =I (.cells c ty (0,0))) (h1:110≠ty) (h2:106≠ty) (m:Ze [g] w w'):V2 n0 l k v w':=by
 obtain ⟨us,k1,k2,k3⟩:=h;exact ⟨us,k1,k2.jr hg h1 m,λ j hj=>(k3 j hj).jr hg h2 m⟩
theorem Vd.jr {n0 k g:Nat} {l:List (Int×List Nat)} {v:Value} {c:Array Value} {ty:TypeId} (h:Vd n0 l k v w) (hg:w.heap[g]? =I (.cells c ty (0,0))) (h1:63≠ty) (h2:51≠ty) (m:Ze [g] w w'):Vd n0 l k v w':=by
 obtain ⟨us,k1,k2,k3⟩:=h;exact ⟨us,k1,k2.jr hg h1 m,λ j hj=>(k3 j hj).jr hg h2 m⟩
theorem V2.kq {n0 k z' k':Nat} {l:List (Int×List Xg)} {v u:Value} {ys:List Value} {ty:TypeId} (h:V2 n0 l k v w) (h1:110≠ty) (h2:106≠ty) (hu:w.ownsRow 0 ty z' u k' ys) (m:Ze u.ownBlock.toList w w'):V2 n0 l k v w':=by
 obtain ⟨us,k1,k2,k3⟩:=h;exact ⟨us,k1,k2.kq h1 hu m,λ j hj=>(k3 j hj).kq h2 hu m⟩
theorem Vd.kq {n0 k z' k':Nat} {l:List (Int×List Nat)} {v u:Value} {ys:List Value} {ty:TypeId} (h:Vd n0 l k v w) (h1:63≠ty) (h2:51≠ty) (hu:w.ownsRow 0 ty z' u k' ys) (m:Ze u.ownBlock.toList w w'):Vd n0 l k v w':=by
 obtain ⟨us,k1,k2,k3⟩:=h;exact ⟨us,k1,k2.kq h1 hu m,λ j hj=>(k3 j hj).kq h2 hu m⟩
theorem Vd.qj {n0 n1 k:Nat} {l:List (Int×List Nat)} {v:Value} (h:Vd n1 l k v w) (hn:n0<=n1):Vd n0 l k v w:=by
 obtain ⟨us,k1,k2,k3⟩:=h;exact ⟨us,k1,k2.qj hn,λ j hj=>(k3 j hj).qj hn⟩
theorem Sl (l:List (Int×List Xg)) (us:List Value) (p:Int×List Xg) (u:Value) (h:l.length=us.length):Fp (l++[p]) (us++[u])=Fp l us++[U Y p.1,u]:=by
 unfold Fp;rw [List.zipWith_append h];simp
theorem Ai (l:List (Int×List Nat)) (us:List Value) (p:Int×List Nat) (u:Value) (h:l.length=us.length):Hh (l++[p]) (us++[u])=Hh l us++[U Y p.1,u]:=by
 unfold Hh;rw [List.zipWith_append h];simp
theorem Ms {α:Type} (l:List α) (k:Nat) (d:α) (hk:k < l.length):l.take (k+1)=l.take k++[l.getD k d]:=by
 rw [List.take_succ_eq_append_getElem hk,G_,List.getElem?_eq_getElem hk];rfl
theorem Gw {us:List Value} {u:Value} {j:Nat}:(us++[u]).getD j undef=if j=us.length then u else us.getD j undef:=by
 split
 ·rename_i h;subst h;simp
 ·rename_i h;rcases Nat.lt_or_ge j us.length with h'|h'
  ·simp [List.getElem?_append_left h']
  ·rw [G_,G_,List.getElem?_eq_none (by simp;omega),List.getElem?_eq_none (by omega)]
theorem V2.push {n0 k:Nat} {l:List (Int×List Xg)} {v':Value} {us:List Value} {cu:Value} (hl:k < l.length) (hus:us.length=k) (hr:Yb n0 110 2 (k+1) (Fp (l.take k) us++[U Y (l.getD k (0,[])).1,cu]) v' w')
  (h3:∀ j,j < k->Yb n0 106 3 (l.getD j (0,[])).2.length (Yl (l.getD j (0,[])).2) (us.getD j undef) w') (hc:Yb n0 106 3 (l.getD k (0,[])).2.length (Yl (l.getD k (0,[])).2) cu w'):V2 n0 l (k+1) v' w':=by
 refine ⟨us++[cu],by simp [hus],?_,λ j hj=>?_⟩
 ·rw [Ms l k (0,[]) hl,Sl _ _ _ _ (by simp [hus];omega)];exact hr
 ·rw [Gw];split
  ·rename_i e;rw [e,hus];exact hc
  ·exact h3 j (by omega)
theorem Vd.push {n0 k:Nat} {l:List (Int×List Nat)} {v':Value} {us:List Value} {cu:Value} (hl:k < l.length) (hus:us.length=k) (hr:Yb n0 63 2 (k+1) (Hh (l.take k) us++[U Y (l.getD k (0,[])).1,cu]) v' w')
  (h3:∀ j,j < k->Yb n0 51 1 (l.getD j (0,[])).2.length ((l.getD j (0,[])).2.map (Z V)) (us.getD j undef) w') (hc:Yb n0 51 1 (l.getD k (0,[])).2.length ((l.getD k (0,[])).2.map (Z V)) cu w'):Vd n0 l (k+1) v' w':=by
 refine ⟨us++[cu],by simp [hus],?_,λ j hj=>?_⟩
 ·rw [Ms l k (0,[]) hl,Ai _ _ _ _ (by simp [hus];omega)];exact hr
 ·rw [Gw];split
  ·rename_i e;rw [e,hus];exact hc
  ·exact h3 j (by omega)
end
section
variable {w w0 w':W}
def Yy (c0 c1 c2 c3:Int) (vp:Value) (p0 p1 p2 p3 p4 p5:Int) (va vr vt:Value):Array Value:=#[U Y c0,U Y c1,U Y c2,U Y c3,vp,U Y p0,U Y p1,U Y p2,U Y p3,U Y p4,U Y p5,va,vr,vt,L O 0 0,U Y 0]
structure Be (n0:Nat) (c0 c1 c2 c3:Int) (ms:Zh) (progs:List (Int×List Xg)) (cs:List (List (Int×List Nat))) (x a b r z:Nat) (vp vt:Value) (kts:List Nat) (vcs:List Value) (w:W):Prop where
 hx:w.heap[x]? =I (.cells (Yy c0 c1 c2 c3 vp 0 1 2 3 (3+c1) (3+c1+3 * c0) (Xy a) (Xy r) vt) 79 (0,0))
 mem:Zj 137 w a b ms
 j4:Qd w r c1
 prog:V2 n0 progs progs.length vp w
 lk:kts.length=z
 lv:vcs.length=z
 zu:Yb n0 83 1 z (kts.map Xy) vt w
 jn:∀ t,t < z->w.heap[kts.getD t 0]? =I (.cells (Qp (vcs.getD t undef) 0 .nilIface 0) 87 (0,0))/\n0<=kts.getD t 0
 nd:kts.Nodup
 call:∀ t,t < z->Vd n0 (cs.getD t []) (cs.getD t []).length (vcs.getD t undef) w
 nx:n0<=x
 na:n0<=a
 nb:n0<=b
 nr:n0<=r
variable {n0 x a b r z:Nat} {c0 c1 c2 c3:Int} {ms:Zh} {progs:List (Int×List Xg)} {cs:List (List (Int×List Nat))} {vp vt vt':Value} {kts:List Nat} {vcs:List Value}
theorem Be.mod (h:Be n0 c0 c1 c2 c3 ms progs cs x a b r z vp vt kts vcs w) (m:Ze [] w w'):Be n0 c0 c1 c2 c3 ms progs cs x a b r z vp vt kts vcs w':=
 ⟨m.at h.hx (by simp),h.mem.mod m (by simp) (by simp),h.j4.mod m (by simp),h.prog.mod m,h.lk,h.lv,h.zu.mod m,λ t ht=>⟨m.at (h.jn t ht).1 (by simp),(h.jn t ht).2⟩,h.nd,λ t ht=>(h.call t ht).mod m,h.nx,h.na,h.nb,h.nr⟩
theorem Be.round (h:Be n0 c0 c1 c2 c3 ms progs cs x a b r z vp vt kts vcs w) (hr:Qd w' r c1) (m:Ze [r] w w'):Be n0 c0 c1 c2 c3 ms progs cs x a b r z vp vt kts vcs w':=by
 obtain ⟨f,o,hg⟩:=h.j4;exact ⟨m.at h.hx (by simpa using Zs h.hx hg (by decide)),h.mem.mod m (by simpa using Zs h.mem.hd hg (by decide)) (by simpa using Zs h.mem.ws hg (by decide)),hr,h.prog.jr hg (by decide) (by decide) m,h.lk,h.lv,h.zu.jr hg (by decide) m,
  λ t ht=>⟨m.at (h.jn t ht).1 (by simpa using Zs (h.jn t ht).1 hg (by decide)),(h.jn t ht).2⟩,h.nd,λ t ht=>(h.call t ht).jr hg (by decide) (by decide) m,h.nx,h.na,h.nb,h.nr⟩
theorem Ac {us:List Nat} {u d j:Nat}:(us++[u]).getD j d=if j=us.length then u else us.getD j d:=by
 split
 ·rename_i h;subst h;simp
 ·rename_i h;rcases Nat.lt_or_ge j us.length with h'|h'
  ·simp [List.getElem?_append_left h']
  ·rw [G_,G_,List.getElem?_eq_none (by simp;omega),List.getElem?_eq_none (by omega)]
theorem Be.push {wa wb:W} {k:Nat} {v:Value} (h:Be n0 c0 c1 c2 c3 ms progs cs x a b r z vp vt kts vcs w) (m:Ze [] w wa) (hk:wa.heap[k]? =I (.cells (Qp v 0 .nilIface 0) 87 (0,0))) (hkn:w.heap.size<=k) (h0:n0<=w.heap.size) (hv:Vd n0 (cs.getD z []) (cs.getD z []).length v wa)
  (mb:Ze vt.ownBlock.toList wa wb) (ho:wb.ownsRow 0 83 1 vt' (z+1) (kts.map Xy++[Xy k])) (hat:∀ g,vt'.ownBlock=I g->vt.ownBlock=I g\/wa.heap.size<=g):
  Be n0 c0 c1 c2 c3 ms progs cs x a b r (z+1) vp vt' (kts++[k]) (vcs++[v]) (wb.setCell ⟨x,13,O⟩ vt'):=by
 have ha:=h.mod m;have hr:=ha.zu.1;have hX:=Xs ha.hx (by decide) hr mb;have mc:Ze [x] wb (wb.setCell ⟨x,13,O⟩ vt'):=(Zr_ _ _).setCell _ _ (.inl (by simp));have hX':=Zd (i:=13) vt' hX;have F:∀ {n:Nat} {c:Array Value} {t:TypeId},wa.heap[n]? =I (.cells c t (0,0))->t≠83->t≠79->(wb.setCell ⟨x,13,O⟩ vt').heap[n]? =I (.cells c t (0,0)):=by
  intro n c t hn h1 h2;have:=Xs hn h1 hr mb;exact mc.at this (by simpa using Zs this hX h2)
 obtain ⟨f,o,hrn⟩:=ha.j4;refine ⟨hX',⟨F ha.mem.hd (by decide) (by decide),F ha.mem.ws (by decide) (by decide),ha.mem.ne,ha.mem.len⟩,⟨f,o,F hrn (by decide) (by decide)⟩,?_,by simp [h.lk],by simp [h.lv],?_,λ t ht=>?_,?_,λ t ht=>?_,h.nx,h.na,h.nb,h.nr⟩
 ·exact (ha.prog.kq (by decide) (by decide) hr mb).jr hX (by decide) (by decide) mc
 ·refine Yb.jr ⟨?_,λ g hg=>?_⟩ hX (by decide) mc
  ·rw [List.map_append];exact ho
  ·rcases hat g hg with e|e
   ·exact h.zu.2 g e
   ·have:=m.size;omega
 ·rw [Ac,Gw,h.lk,h.lv]
  by_cases e:t=z
  ·rw [P9 e,P9 e];exact ⟨F hk (by decide) (by decide),by omega⟩
  ·rw [Q9 e,Q9 e];exact ⟨F (ha.jn t (by omega)).1 (by decide) (by decide),(ha.jn t (by omega)).2⟩
 ·rw [List.nodup_append];refine ⟨h.nd,by simp,?_⟩;intro y hy z' hz' e;simp at hz';subst hz';subst e;obtain ⟨t,ht,rfl⟩:=List.mem_iff_getElem.1 hy;have:=(h.jn t (by rw [<-h.lk];exact ht)).1;rw [G_,List.getElem?_eq_getElem ht] at this;have:=B9 this;simp at this;omega
 ·rw [Gw,h.lv]
  by_cases e:t=z
  ·rw [P9 e,e];exact (hv.kq (by decide) (by decide) hr mb).jr hX (by decide) (by decide) mc
  ·rw [Q9 e];exact ((ha.call t (by omega)).kq (by decide) (by decide) hr mb).jr hX (by decide) (by decide) mc
def Bz (n0:Nat) (w:W) (kts:List Nat) (n:Nat):Nat:=
 if n < n0 then 0 else if Xt w n=I 79 then 1 else if Xt w n=I 137\/Xt w n=I 54 then 2 else if Xt w n=I 123 then 3 else if Xt w n=I 83 then 4 else if Xt w n=I 87 then 10+kts.idxOf n else 6
theorem V7 {n:Nat} {t:TypeId} (hn:n0<=n) (ht:Xt w n=I t):Bz n0 w kts n=if t=79 then 1 else if t=137\/t=54 then 2 else if t=123 then 3 else if t=83 then 4 else if t=87 then 10+kts.idxOf n else 6:=by
 unfold Bz;rw [Q9 (by omega),ht];simp only [Option.some.injEq]
theorem Yb.yh {t:TypeId} {z n:Nat} {xs:List Value} {v:Value} (h:Yb n0 t z n xs v w) (h1:t≠79/\t≠137/\t≠54/\t≠123/\t≠83/\t≠87):Uj w (Bz n0 w kts) 6 t z xs n v:=
 ⟨h.1,λ g hg=>by
  rw [V7 (h.2 g hg) (Yf h.1 hg),Q9 h1.1,Q9 (by rintro (e|e);exact h1.2.1 e;exact h1.2.2.1 e),Q9 h1.2.2.2.1,Q9 h1.2.2.2.2.1,Q9 h1.2.2.2.2.2]⟩
theorem V2.all {v:Value} (h:V2 n0 progs progs.length v w):Ba w (Bz n0 w kts) 6 v progs:=by
 obtain ⟨us,h1,h2,h3⟩:=h;rw [List.take_length] at h2;exact ⟨us,h1,h2.yh (by decide),λ k hk=>(h3 k hk).yh (by decide)⟩
theorem Vd.all {l:List (Int×List Nat)} {v:Value} (h:Vd n0 l l.length v w):Bd w (Bz n0 w kts) 6 v l:=by
 obtain ⟨us,h1,h2,h3⟩:=h;rw [List.take_length] at h2;exact ⟨us,h1,h2.yh (by decide),λ k hk=>(h3 k hk).yh (by decide)⟩
variable {start:List Nat} {t:Nat}
theorem Qj:(Vt c0 c1 c2 c3 start progs cs).qi.length=c1.toNat:=by simp [Vt]
theorem Kg (ht:t < c1.toNat):(Vt c0 c1 c2 c3 start progs cs).th t=⟨cs.getD t [],0,O⟩:=by
 unfold Zn.th Vt;simp [ht]
theorem Be.eng (hc:Y1 c0 c1 c2 c3) (h:Be w0.heap.size c0 c1 c2 c3 (Qx (.fresh (Zw c0 c1).toNat) (Z2 c1) start) progs cs x a b r c1.toNat vp vt kts vcs w) (m:Ze [] w0 w):
  ∃ lab P,P.x=x/\Ys w0 w lab P (Vt c0 c1 c2 c3 start progs cs):=by
 obtain ⟨f,o,hr⟩:=h.j4;obtain ⟨e1,e2,e3,e4,_⟩:=hc;refine ⟨Bz w0.heap.size w kts,⟨x,a,b,r,vp,vt,L O 0 0,λ t=>kts.getD t 0,λ t=>vcs.getD t undef,λ _=>.nilIface,λ _=>0,[]⟩,J,?_⟩;have hkt:∀ t,t < c1.toNat->Bz w0.heap.size w kts (kts.getD t 0)=10+t:=by
  intro t ht;have h1:=h.jn t ht;rw [V7 h1.2 (Zp h1.1),Q9 (by decide),Q9 (by decide),Q9 (by decide),Q9 (by decide),P9 rfl];have hl:t < kts.length:=by rw [h.lk];exact ht
  rw [G_,List.getElem?_eq_getElem hl];simp only [Option.getD_some];rw [List.Nodup.idxOf_getElem h.nd]
 refine {hx:=h.hx,mem:=h.mem,j4:=h.j4,prog:=h.prog.all,zu:=?_,jn:=λ t ht=>?_,lt:=λ t ht=>?_,call:=λ t ht=>?_,cur:=λ t i ht hi=>?_,go:=λ t ht=>?_,ze:=⟨J,Uj.nil _ _,λ k hk=>absurd hk (Nat.not_lt_zero k)⟩,n1:=?_,n8:=?_,nt:=?_,lx:=?_,la:=?_,lb:=?_,lr:=?_,jl:=λ n hn=>P9 hn,fr:=m}
 ·rw [Qj];have e:(List.range c1.toNat).map (λ t=>Xy (kts.getD t 0))=kts.map Xy:=by
   apply List.ext_getElem
   ·simp [h.lk]
   ·intro i h1 h2;have hi:i < kts.length:=by simpa using h2
    simp [hi]
  show Uj w _ 4 83 1 ((List.range c1.toNat).map (λ t=>Xy (kts.getD t 0))) c1.toNat vt;rw [e];exact ⟨h.zu.1,λ g hg=>by
   rw [V7 (h.zu.2 g hg) (Yf h.zu.1 hg)];rfl⟩
 ·rw [Qj] at ht;rw [Kg ht];exact (h.jn t ht).1
 ·rw [Qj] at ht;exact hkt t ht
 ·rw [Qj] at ht;rw [Kg ht];exact (h.call t ht).all
 ·rw [Qj] at ht;rw [Kg ht] at hi;cases hi
 ·rw [Qj] at ht;have e:Zn.zi (Vt c0 c1 c2 c3 start progs cs) t=O:=by
   unfold Zn.zi;rw [Kg ht]
  rw [e];rfl
 ·rw [Qj];omega
 ·rw [Qj];omega
 ·rw [Qj];show c1=_;omega
 ·rw [V7 h.nx (Zp h.hx)];rfl
 ·rw [V7 h.na (Zp h.mem.hd)];rfl
 ·rw [V7 h.nb (Zp h.mem.ws)];rfl
 ·rw [V7 h.nr (Zp hr)];rfl
theorem T5 (h:Tm c0 c1 c2 c3 start.length progs.length cs) (hl:∀ p∈progs,p.2.length<=5864062014635):Yi (Vt c0 c1 c2 c3 start progs cs):=by
 obtain ⟨e1,e2,e3,e4,_⟩:=id h.cf;have hin:∀ t,t < c1.toNat->(cs.getD t []).length<=64:=by
  intro t ht
  by_cases hc:t < cs.length
  ·exact h.l t hc
  ·rw [G_,List.getElem?_eq_none (by omega)];simp
 refine ⟨h.cf,by rw [Qj];show c1=_;omega,?_,λ t ht=>?_,λ t c ht hcm=>?_,hl,λ t i ht hi=>?_,λ i raw g hi=>?_,Nat.le_refl _⟩
 ·show ((Qx (.fresh (Zw c0 c1).toNat) (Z2 c1) start).ws.length:Int)=Zw c0 c1;have:(Qx (.fresh (Zw c0 c1).toNat) (Z2 c1) start).ws.length=(Zw c0 c1).toNat:=by
   unfold Qx;split
   ·rw [Nl];simp [Zh.fresh]
   ·simp [Zh.fresh]
  rw [this];unfold Zw;omega
 ·rw [Qj] at ht;rw [Kg ht];exact ⟨Nat.zero_le _,hin t ht⟩
 ·rw [Qj] at ht;rw [Kg ht] at hcm;have hcm:c∈cs.getD t []:=hcm
  by_cases hc:t < cs.length
  ·obtain ⟨j,hj,rfl⟩:=List.mem_iff_getElem.1 hcm;have:=h.c t j hc hj;rw [G_ (l:=cs.getD t []),List.getElem?_eq_getElem hj] at this;exact this
  ·rw [G_,List.getElem?_eq_none (by omega)] at hcm;cases hcm
 ·rw [Qj] at ht;rw [Kg ht] at hi;cases hi
 ·cases hi
theorem Mx (s:Zh) (p4:Int) (h4:3<=p4) (xs:List Nat) (j:Nat) (hj:j < 3):∀ k,(Vp s p4 xs k).wd j=s.wd j
 |0=>rfl
 |k+1=>by
  have P:∀ (s:Zh) (i v:Int),3<=i->(s.jy i v).wd j=s.wd j:=by
   intro s i v hi;unfold Zh.jy;split
   ·rw [Zh.j7,Q9 (by omega)]
   ·rfl
  rw [Vp,P _ _ _ (by omega),P _ _ _ (by omega),P _ _ _ (by omega),Mx s p4 h4 xs j hj k]
theorem Fs (hc:Y1 c0 c1 c2 c3) (j:Nat) (hj:j < 3):(Vt c0 c1 c2 c3 start progs cs).mem.wd j=0:=by
 show (Qx (.fresh (Zw c0 c1).toNat) (Z2 c1) start).wd j=0;have e:(Zh.fresh (Zw c0 c1).toNat).wd j=0:=by
  unfold Zh.wd Zh.fresh;rw [G_,List.getElem?_replicate];split <;> rfl
 unfold Qx;split
 ·rw [Mx _ _ (by obtain ⟨_,_,h,_⟩:=hc;unfold Z2;omega) _ j hj,e]
 ·exact e
theorem Tc (hc:Y1 c0 c1 c2 c3):Qa (Vt c0 c1 c2 c3 start progs cs):=by
 refine ⟨?_,λ i raw y hi=>?_,by show (0:Nat) < 1000000000;omega⟩
 ·rw [Fs hc 0 (by omega),Fs hc 1 (by omega),Fs hc 2 (by omega)];exact Xz.init
 ·cases hi
theorem Lm:(Vt c0 c1 c2 c3 start progs cs).ym:=λ x hx=>by cases hx
end
end Go.Proofs.YtkhonmhnchdpkaaGreat
