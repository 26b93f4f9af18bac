/- A part of the proof; no condition. -/
import Derived.Test.YtkhonmhnchdpkaaGreatP34
set_option maxRecDepth 100000
set_option maxHeartbeats 40000000
namespace Go.Proofs.YtkhonmhnchdpkaaGreat
open Go.RowKit _root_.Go.Proofs.Tryz
section
theorem Lo (c t f k:Int) (hb:c < 1) (w:World):
  Calls Tryz.prog 48 #[.agg #[.int .i64 c,.int .i64 t,.int .i64 f,.int .i64 k]] w λ e w'=>e=.returned (.bool false)/\Ze [] w w':=by
 go_enter func48,ntmps48;go_wp2;go_ret;exact ⟨by first|rfl|(simp;omega),(by repeat (first|with_reducible exact Zr_ _ _|with_reducible assumption|with_reducible refine Ze.drew ?_|with_reducible refine Ze.alloc ?_ _|with_reducible refine Ze.set_new ?_ _ _ _ (by simp)))⟩
theorem Ln (c t f k:Int) (h0:1<=c) (hb:256 < c) (w:World):
  Calls Tryz.prog 48 #[.agg #[.int .i64 c,.int .i64 t,.int .i64 f,.int .i64 k]] w λ e w'=>e=.returned (.bool false)/\Ze [] w w':=by
 go_enter func48,ntmps48;go_wp2;go_ret;exact ⟨by first|rfl|(simp;omega),(by repeat (first|with_reducible exact Zr_ _ _|with_reducible assumption|with_reducible refine Ze.drew ?_|with_reducible refine Ze.alloc ?_ _|with_reducible refine Ze.set_new ?_ _ _ _ (by simp)))⟩
theorem Lm (c t f k:Int) (h0:1<=c) (h1:c<=256) (hb:t < 1) (w:World):
  Calls Tryz.prog 48 #[.agg #[.int .i64 c,.int .i64 t,.int .i64 f,.int .i64 k]] w λ e w'=>e=.returned (.bool false)/\Ze [] w w':=by
 go_enter func48,ntmps48;go_wp2;go_ret;exact ⟨by first|rfl|(simp;omega),(by repeat (first|with_reducible exact Zr_ _ _|with_reducible assumption|with_reducible refine Ze.drew ?_|with_reducible refine Ze.alloc ?_ _|with_reducible refine Ze.set_new ?_ _ _ _ (by simp)))⟩
theorem Ll (c t f k:Int) (h0:1<=c) (h1:c<=256) (h2:1<=t) (hb:8 < t) (w:World):
  Calls Tryz.prog 48 #[.agg #[.int .i64 c,.int .i64 t,.int .i64 f,.int .i64 k]] w λ e w'=>e=.returned (.bool false)/\Ze [] w w':=by
 go_enter func48,ntmps48;go_wp2;go_ret;exact ⟨by first|rfl|(simp;omega),(by repeat (first|with_reducible exact Zr_ _ _|with_reducible assumption|with_reducible refine Ze.drew ?_|with_reducible refine Ze.alloc ?_ _|with_reducible refine Ze.set_new ?_ _ _ _ (by simp)))⟩
theorem Lk (c t f k:Int) (h0:1<=c) (h1:c<=256) (h2:1<=t) (h3:t<=8) (hb:f < 1) (w:World):
  Calls Tryz.prog 48 #[.agg #[.int .i64 c,.int .i64 t,.int .i64 f,.int .i64 k]] w λ e w'=>e=.returned (.bool false)/\Ze [] w w':=by
 go_enter func48,ntmps48;go_wp2;go_ret;exact ⟨by first|rfl|(simp;omega),(by repeat (first|with_reducible exact Zr_ _ _|with_reducible assumption|with_reducible refine Ze.drew ?_|with_reducible refine Ze.alloc ?_ _|with_reducible refine Ze.set_new ?_ _ _ _ (by simp)))⟩
theorem Lj (c t f k:Int) (h0:1<=c) (h1:c<=256) (h2:1<=t) (h3:t<=8) (h4:1<=f) (hb:1024 < f) (w:World):
  Calls Tryz.prog 48 #[.agg #[.int .i64 c,.int .i64 t,.int .i64 f,.int .i64 k]] w λ e w'=>e=.returned (.bool false)/\Ze [] w w':=by
 go_enter func48,ntmps48;go_wp2;go_ret;exact ⟨by first|rfl|(simp;omega),(by repeat (first|with_reducible exact Zr_ _ _|with_reducible assumption|with_reducible refine Ze.drew ?_|with_reducible refine Ze.alloc ?_ _|with_reducible refine Ze.set_new ?_ _ _ _ (by simp)))⟩
theorem Li (c t f k:Int) (h0:1<=c) (h1:c<=256) (h2:1<=t) (h3:t<=8) (h4:1<=f) (h5:f<=1024) (hb:k < 1) (w:World):
  Calls Tryz.prog 48 #[.agg #[.int .i64 c,.int .i64 t,.int .i64 f,.int .i64 k]] w λ e w'=>e=.returned (.bool false)/\Ze [] w w':=by
 go_enter func48,ntmps48;go_wp2;go_ret;exact ⟨by first|rfl|(simp;omega),(by repeat (first|with_reducible exact Zr_ _ _|with_reducible assumption|with_reducible refine Ze.drew ?_|with_reducible refine Ze.alloc ?_ _|with_reducible refine Ze.set_new ?_ _ _ _ (by simp)))⟩
theorem Lh (c t f k:Int) (h0:1<=c) (h1:c<=256) (h2:1<=t) (h3:t<=8) (h4:1<=f) (h5:f<=1024) (h6:1<=k) (hb:32 < k) (w:World):
  Calls Tryz.prog 48 #[.agg #[.int .i64 c,.int .i64 t,.int .i64 f,.int .i64 k]] w λ e w'=>e=.returned (.bool false)/\Ze [] w w':=by
 go_enter func48,ntmps48;go_wp2;go_ret;exact ⟨by first|rfl|(simp;omega),(by repeat (first|with_reducible exact Zr_ _ _|with_reducible assumption|with_reducible refine Ze.drew ?_|with_reducible refine Ze.alloc ?_ _|with_reducible refine Ze.set_new ?_ _ _ _ (by simp)))⟩
theorem Wj (c t f k:Int) (h:¬ Yq c t f k) (w:World):
  Calls Tryz.prog 48 #[.agg #[.int .i64 c,.int .i64 t,.int .i64 f,.int .i64 k]] w λ e w'=>e=.returned (.bool false)/\Ze [] w w':=by
 unfold Yq at h
 by_cases b0:c < 1
 ·exact Lo c t f k b0 w
 by_cases b1:256 < c
 ·exact Ln c t f k (by omega) b1 w
 by_cases b2:t < 1
 ·exact Lm c t f k (by omega) (by omega) b2 w
 by_cases b3:8 < t
 ·exact Ll c t f k (by omega) (by omega) (by omega) b3 w
 by_cases b4:f < 1
 ·exact Lk c t f k (by omega) (by omega) (by omega) (by omega) b4 w
 by_cases b5:1024 < f
 ·exact Lj c t f k (by omega) (by omega) (by omega) (by omega) (by omega) b5 w
 by_cases b6:k < 1
 ·exact Li c t f k (by omega) (by omega) (by omega) (by omega) (by omega) (by omega) b6 w
 by_cases b7:32 < k
 ·exact Lh c t f k (by omega) (by omega) (by omega) (by omega) (by omega) (by omega) (by omega) b7 w
 ·omega
theorem maybe_ok (c t f k:Int) (h:Yq c t f k) (w:World):
  Calls Tryz.prog 48 #[.agg #[.int .i64 c,.int .i64 t,.int .i64 f,.int .i64 k]] w λ e w'=>e=.returned (.bool true)/\Ze [] w w':=by
 obtain ⟨h0,h1,h2,h3,h4,h5,h6,h7⟩:=h;go_enter func48,ntmps48;go_wp2;go_ret;exact ⟨by first|rfl|(simp;omega),(by repeat (first|with_reducible exact Zr_ _ _|with_reducible assumption|with_reducible refine Ze.drew ?_|with_reducible refine Ze.alloc ?_ _|with_reducible refine Ze.set_new ?_ _ _ _ (by simp)))⟩
theorem Cx (c t f k:Int) (h:¬ Yq c t f k) (w:World):
  Calls Tryz.prog 28 #[.agg #[.int .i64 c,.int .i64 t,.int .i64 f,.int .i64 k]] w λ e w'=>e=.returned (.tuple #[.agg #[.int .i64 0,.int .i64 0,.int .i64 0,.int .i64 0,.int .i64 0,.int .i64 0],.int .i64 1])/\Ze [] w w':=by
 go_enter func28,ntmps28;go_wp2_with fail;refine (Wj c t f k h _).mono ?_;rintro e w1 ⟨rfl,d1⟩;have B1:w1.heap[w.heap.size]? =some (.cells #[.int .i64 c,.int .i64 t,.int .i64 f,.int .i64 k] 23 (0,0)):=d1.at (Zf _ (heap_alloc_new _ _)) (by simp);have B2:w1.heap[w.heap.size+1]? =some (.cells #[.int .i64 0,.int .i64 0,.int .i64 0,.int .i64 0,.int .i64 0,.int .i64 0] 74 (0,0)):=d1.at (by have:=heap_alloc_new (w.alloc (.cells #[.int .i64 c,.int .i64 t,.int .i64 f,.int .i64 k] 23)) (.cells #[.int .i64 0,.int .i64 0,.int .i64 0,.int .i64 0,.int .i64 0,.int .i64 0] 74);rwa [World.size_alloc] at this) (by simp);have b1_0:=Za (i:=0) B1 rfl;have b1_1:=Za (i:=1) B1 rfl;have b1_2:=Za (i:=2) B1 rfl;have b1_3:=Za (i:=3) B1 rfl;have b2_0:=Za (i:=0) B2 rfl;have f2_0:=Zb (i:=0) B2;have b2_1:=Za (i:=1) B2 rfl;have f2_1:=Zb (i:=1) B2;have b2_2:=Za (i:=2) B2 rfl;have f2_2:=Zb (i:=2) B2;have b2_3:=Za (i:=3) B2 rfl;have f2_3:=Zb (i:=3) B2;have b2_4:=Za (i:=4) B2 rfl;have f2_4:=Zb (i:=4) B2;have b2_5:=Za (i:=5) B2 rfl;have f2_5:=Zb (i:=5) B2;have hsz:=lt_of_block B2;clear B1 B2;have D1:Ze [] w w1:=((((Zr_ _ _).alloc _).alloc _)).trans d1;clear d1;clear h;go_wp2;exact bodyPost_ret (v:=.tuple #[.agg #[.int .i64 0,.int .i64 0,.int .i64 0,.int .i64 0,.int .i64 0,.int .i64 0],.int .i64 1]) (by simp [results,results28,go_sem,b2_0,b2_1,b2_2,b2_3,b2_4,b2_5]) rfl ⟨rfl,(by repeat (first|with_reducible exact Zr_ _ _|with_reducible assumption|with_reducible refine Ze.drew ?_|with_reducible refine Ze.alloc ?_ _|with_reducible refine Ze.set_new ?_ _ _ _ (by simp)))⟩
theorem Kf (c t f k:Int) (h:Yq c t f k) (w:World):
  Calls Tryz.prog 28 #[.agg #[.int .i64 c,.int .i64 t,.int .i64 f,.int .i64 k]] w λ e w'=>e=.returned (.tuple #[.agg #[.int .i64 0,.int .i64 1,.int .i64 2,.int .i64 3,.int .i64 (3+t),.int .i64 (3+t+3 * c)],.int .i64 0])/\Ze [] w w':=by
 go_enter func28,ntmps28;go_wp2_with fail;refine (maybe_ok c t f k h _).mono ?_;rintro e w1 ⟨rfl,d1⟩;have B1:w1.heap[w.heap.size]? =some (.cells #[.int .i64 c,.int .i64 t,.int .i64 f,.int .i64 k] 23 (0,0)):=d1.at (Zf _ (heap_alloc_new _ _)) (by simp);have B2:w1.heap[w.heap.size+1]? =some (.cells #[.int .i64 0,.int .i64 0,.int .i64 0,.int .i64 0,.int .i64 0,.int .i64 0] 74 (0,0)):=d1.at (by have:=heap_alloc_new (w.alloc (.cells #[.int .i64 c,.int .i64 t,.int .i64 f,.int .i64 k] 23)) (.cells #[.int .i64 0,.int .i64 0,.int .i64 0,.int .i64 0,.int .i64 0,.int .i64 0] 74);rwa [World.size_alloc] at this) (by simp);have b1_0:=Za (i:=0) B1 rfl;have b1_1:=Za (i:=1) B1 rfl;have b1_2:=Za (i:=2) B1 rfl;have b1_3:=Za (i:=3) B1 rfl;have b2_0:=Za (i:=0) B2 rfl;have f2_0:=Zb (i:=0) B2;have b2_1:=Za (i:=1) B2 rfl;have f2_1:=Zb (i:=1) B2;have b2_2:=Za (i:=2) B2 rfl;have f2_2:=Zb (i:=2) B2;have b2_3:=Za (i:=3) B2 rfl;have f2_3:=Zb (i:=3) B2;have b2_4:=Za (i:=4) B2 rfl;have f2_4:=Zb (i:=4) B2;have b2_5:=Za (i:=5) B2 rfl;have f2_5:=Zb (i:=5) B2;have hsz:=lt_of_block B2;clear B1 B2;have D1:Ze [] w w1:=((((Zr_ _ _).alloc _).alloc _)).trans d1;clear d1;obtain ⟨h0,h1,h2,h3,h4,h5,h6,h7⟩:=h;go_wp2;exact bodyPost_ret (v:=.tuple #[.agg #[.int .i64 0,.int .i64 1,.int .i64 2,.int .i64 3,.int .i64 (3+t),.int .i64 (3+t+3 * c)],.int .i64 0]) (by simp [results,results28,go_sem,b2_0,b2_1,b2_2,b2_3,b2_4,b2_5]) rfl ⟨rfl,(by repeat (first|with_reducible exact Zr_ _ _|with_reducible assumption|with_reducible refine Ze.drew ?_|with_reducible refine Ze.alloc ?_ _|with_reducible refine Ze.set_new ?_ _ _ _ (by simp)))⟩
end
section
variable {w w':World}
theorem Ub (ad:Addr) (j:Nat):(ad.add j).block=ad.block:=by unfold Addr.add;split <;> rfl
def U4 (w:World) (z:Nat) (v:Value) (n:Nat) (xs:List Value):Prop:=
 xs.length=n * z/\((v=.slice none 0 0/\n=0)\/∃ ad cap,v=.slice (some ad) n cap/\∀ (j:Nat) (u:Value),xs[j]? =some u->ad.block < w.heap.size/\w.cell? (ad.add j)=some u)
theorem U4.mod {z n:Nat} {v:Value} {xs:List Value} (h:U4 w z v n xs) (m:Ze [] w w'):U4 w' z v n xs:=by
 refine ⟨h.1,?_⟩;rcases h.2 with e|⟨ad,cap,e,h⟩
 ·exact .inl e
 ·refine .inr ⟨ad,cap,e,λ j u hu=>?_⟩;obtain ⟨h1,h2⟩:=h j u hu;exact ⟨Nat.lt_of_lt_of_le h1 m.size,Zy m (a:=ad.add j) (by rw [Ub];exact h1) (by simp) h2⟩
theorem U4.form {z n:Nat} {v:Value} {xs:List Value} (h:U4 w z v n xs):∃ a cap,v=.slice a n cap:=by
 rcases h.2 with ⟨e,rfl⟩|⟨ad,cap,e,_⟩
 ·exact ⟨none,0,e⟩
 ·exact ⟨some ad,cap,e⟩
def Gp (w:World) (v:Value) (l:List (Int×List Xf)):Prop:=
 ∃ a cap,v=.slice a l.length cap/\∀ j,j < l.length->∃ h o u,a=some ⟨h,o,none⟩/\h < w.heap.size/\w.cell? ⟨h,o+j * 2,none⟩=some (.int .i64 (l.getD j (0,[])).1)/\w.cell? ⟨h,o+j * 2+1,none⟩=some u/\U4 w 3 u (l.getD j (0,[])).2.length (Yk (l.getD j (0,[])).2)
def Js (w:World) (v:Value) (l:List (Int×List Nat)):Prop:=
 ∃ a cap,v=.slice a l.length cap/\∀ j,j < l.length->∃ h o u,a=some ⟨h,o,none⟩/\h < w.heap.size/\w.cell? ⟨h,o+j * 2,none⟩=some (.int .i64 (l.getD j (0,[])).1)/\w.cell? ⟨h,o+j * 2+1,none⟩=some u/\U4 w 1 u (l.getD j (0,[])).2.length ((l.getD j (0,[])).2.map (Value.float .f64))
def Ky (w:World) (v:Value) (cs:List (List (Int×List Nat))):Prop:=
 ∃ a cap,v=.slice a cs.length cap/\∀ i,i < cs.length->∃ g o u,a=some ⟨g,o,none⟩/\g < w.heap.size/\w.cell? ⟨g,o+i,none⟩=some u/\Js w u (cs.getD i [])
def CallRd (w:World) (v:Value) (l:List (Int×List Nat)):Prop:=
 ∃ a cap,v=.slice a l.length cap/\∀ j,j < l.length->∃ h o aa ca,a=some ⟨h,o,none⟩/\h < w.heap.size/\w.cell? ⟨h,o+j * 2,none⟩=some (.int .i64 (l.getD j (0,[])).1)/\w.cell? ⟨h,o+j * 2+1,none⟩=some (.slice aa (l.getD j (0,[])).2.length ca)
def T3 (w:World) (v:Value) (cs:List (List (Int×List Nat))):Prop:=
 ∃ a cap,v=.slice a cs.length cap/\∀ i,i < cs.length->∃ g o u,a=some ⟨g,o,none⟩/\g < w.heap.size/\w.cell? ⟨g,o+i,none⟩=some u/\CallRd w u (cs.getD i [])
theorem Gp.mod {v:Value} {l:List (Int×List Xf)} (h:Gp w v l) (m:Ze [] w w'):Gp w' v l:=by
 obtain ⟨a,cap,rfl,h⟩:=h;refine ⟨a,cap,rfl,λ j hj=>?_⟩;obtain ⟨g,o,u,e,hg,h1,h2,h3⟩:=h j hj;exact ⟨g,o,u,e,Nat.lt_of_lt_of_le hg m.size,Zy m hg (by simp) h1,Zy m hg (by simp) h2,h3.mod m⟩
theorem Js.mod {v:Value} {l:List (Int×List Nat)} (h:Js w v l) (m:Ze [] w w'):Js w' v l:=by
 obtain ⟨a,cap,rfl,h⟩:=h;refine ⟨a,cap,rfl,λ j hj=>?_⟩;obtain ⟨g,o,u,e,hg,h1,h2,h3⟩:=h j hj;exact ⟨g,o,u,e,Nat.lt_of_lt_of_le hg m.size,Zy m hg (by simp) h1,Zy m hg (by simp) h2,h3.mod m⟩
theorem Ky.mod {v:Value} {cs:List (List (Int×List Nat))} (h:Ky w v cs) (m:Ze [] w w'):Ky w' v cs:=by
 obtain ⟨a,cap,rfl,h⟩:=h;refine ⟨a,cap,rfl,λ j hj=>?_⟩;obtain ⟨g,o,u,e,hg,h1,h2⟩:=h j hj;exact ⟨g,o,u,e,Nat.lt_of_lt_of_le hg m.size,Zy m hg (by simp) h1,h2.mod m⟩
theorem Js.rd {v:Value} {l:List (Int×List Nat)} (h:Js w v l):CallRd w v l:=by
 obtain ⟨a,cap,rfl,h⟩:=h;refine ⟨a,cap,rfl,λ j hj=>?_⟩;obtain ⟨g,o,u,e,hg,h1,h2,h3⟩:=h j hj;obtain ⟨aa,ca,rfl⟩:=h3.form;exact ⟨g,o,aa,ca,e,hg,h1,h2⟩
theorem Ky.rd {v:Value} {cs:List (List (Int×List Nat))} (h:Ky w v cs):T3 w v cs:=by
 obtain ⟨a,cap,rfl,h⟩:=h;refine ⟨a,cap,rfl,λ j hj=>?_⟩;obtain ⟨g,o,u,e,hg,h1,h2⟩:=h j hj;exact ⟨g,o,u,e,hg,h1,h2.rd⟩
def FX (w:World) (v:Value) (xs:List Nat):Prop:=
 ∃ a cap,v=.slice a xs.length cap/\∀ i,i < xs.length->∃ g o,a=some ⟨g,o,none⟩/\g < w.heap.size/\w.cell? ⟨g,o+i,none⟩=some (.float .f64 (xs.getD i 0))
theorem FX.mod {v:Value} {xs:List Nat} (h:FX w v xs) (m:Ze [] w w'):FX w' v xs:=by
 obtain ⟨a,cap,rfl,h⟩:=h;refine ⟨a,cap,rfl,λ i hi=>?_⟩;obtain ⟨g,o,e,hg,h1⟩:=h i hi;exact ⟨g,o,e,Nat.lt_of_lt_of_le hg m.size,Zy m hg (by simp) h1⟩
def Y5 (np:Nat) (c:Int×List Nat):Bool:=decide (c.1 < 0) || decide ((np:Int)<=c.1) || decide (8 < c.2.length)
instance (c0 c1 c2 c3:Int):Decidable (Yq c0 c1 c2 c3):=by unfold Yq;exact inferInstance
def Yr (c0 c1 c2 c3:Int) (ns np:Nat) (cs:List (List (Int×List Nat))):Int:=
 if ¬ Yq c0 c1 c2 c3\/c0 < ns then 1
 else if 64 < np\/c1 < cs.length then 160
 else if cs.any (λ l=>decide (64 < l.length))=true then 160
 else if cs.any (λ l=>l.any (Y5 np))=true then 1 else 0
variable {c0 c1 c2 c3:Int} {ns np:Nat} {cs:List (List (Int×List Nat))}
theorem Px {α:Type} {l:List α} {p:α->Bool} {d:α} {i:Nat} (hi:i < l.length) (h:p (l.getD i d)=true):l.any p=true:=by
 rw [List.any_eq_true];refine ⟨l.getD i d,?_,h⟩;rw [List.getD_eq_getElem?_getD,List.getElem?_eq_getElem hi];exact List.getElem_mem hi
theorem Pw {α:Type} {l:List α} {p:α->Bool} {d:α} (h:∀ i,i < l.length->p (l.getD i d)=false):l.any p=false:=by
 rw [List.any_eq_false];intro x hx;obtain ⟨i,hi,rfl⟩:=List.mem_iff_getElem.1 hx;have:=h i hi;rw [List.getD_eq_getElem?_getD,List.getElem?_eq_getElem hi] at this;simpa using this
theorem U5 (h:¬ Yq c0 c1 c2 c3\/c0 < ns):Yr c0 c1 c2 c3 ns np cs=1:=if_pos h
theorem Uc (h:Yq c0 c1 c2 c3) (hs:(ns:Int)<=c0) (h2:64 < np\/c1 < cs.length):Yr c0 c1 c2 c3 ns np cs=160:=by
 unfold Yr;rw [if_neg (by rintro (k|k);exact k h;omega),if_pos h2]
theorem Ga (h:Yq c0 c1 c2 c3) (hs:(ns:Int)<=c0) (hp:np<=64) (ht:(cs.length:Int)<=c1) {i:Nat} (hi:i < cs.length) (h2:64 < (cs.getD i []).length):Yr c0 c1 c2 c3 ns np cs=160:=by
 unfold Yr;rw [if_neg (by rintro (k|k);exact k h;omega),if_neg (by omega),if_pos (Px hi (decide_eq_true h2))]
theorem Mx (h:∀ i,i < cs.length->(cs.getD i []).length<=64):cs.any (λ l=>decide (64 < l.length))=false:=
 Pw (d:=[]) (λ i hi=>decide_eq_false (by have:=h i hi;omega))
theorem Gb (h:Yq c0 c1 c2 c3) (hs:(ns:Int)<=c0) (hp:np<=64) (ht:(cs.length:Int)<=c1) (h64:∀ i,i < cs.length->(cs.getD i []).length<=64) {i j:Nat} (hi:i < cs.length) (hj:j < (cs.getD i []).length) (h2:Y5 np ((cs.getD i []).getD j (0,[]))=true):Yr c0 c1 c2 c3 ns np cs=1:=by
 unfold Yr;rw [if_neg (by rintro (k|k);exact k h;omega),if_neg (by omega),if_neg (by rw [Mx h64];decide),if_pos (Px hi (Px hj h2))]
theorem Jg (h:Yq c0 c1 c2 c3) (hs:(ns:Int)<=c0) (hp:np<=64) (ht:(cs.length:Int)<=c1) (h64:∀ i,i < cs.length->(cs.getD i []).length<=64) (h2:∀ i j,i < cs.length->j < (cs.getD i []).length->Y5 np ((cs.getD i []).getD j (0,[]))=false):Yr c0 c1 c2 c3 ns np cs=0:=by
 unfold Yr;rw [if_neg (by rintro (k|k);exact k h;omega),if_neg (by omega),if_neg (by rw [Mx h64];decide),if_neg (by rw [Pw (d:=[]) (λ i hi=>Pw (d:=(0,[])) (λ j hj=>h2 i j hi hj))];decide)]
structure P3 (c0 c1 c2 c3:Int) (ns np:Nat) (cs:List (List (Int×List Nat))):Prop where
 cf:Yq c0 c1 c2 c3
 s:(ns:Int)<=c0
 p:np<=64
 t:(cs.length:Int)<=c1
 l:∀ i,i < cs.length->(cs.getD i []).length<=64
 c:∀ i j,i < cs.length->j < (cs.getD i []).length->0<=((cs.getD i []).getD j (0,[])).1/\((cs.getD i []).getD j (0,[])).1 < np/\((cs.getD i []).getD j (0,[])).2.length<=8
theorem Hn {α:Type} {l:List α} {d:α} {i:Nat} (hi:i < l.length):l.getD i d∈l:=by
 rw [List.getD_eq_getElem?_getD,List.getElem?_eq_getElem hi];exact List.getElem_mem hi
theorem Dk (h:Yr c0 c1 c2 c3 ns np cs=0):P3 c0 c1 c2 c3 ns np cs:=by
 by_cases h1:¬ Yq c0 c1 c2 c3\/c0 < ns
 ·rw [U5 h1] at h;omega
 have hc:Yq c0 c1 c2 c3:=Decidable.not_not.1 (λ k=>h1 (.inl k));have hs:(ns:Int)<=c0:=by have:¬ c0 < ns:=λ k=>h1 (.inr k);omega
 by_cases h2:64 < np\/c1 < cs.length
 ·rw [Uc hc hs h2] at h;omega
 have hp:np<=64:=by omega
 have ht:(cs.length:Int)<=c1:=by omega
 have hl:∀ i,i < cs.length->(cs.getD i []).length<=64:=by
  intro i hi
  by_cases k:64 < (cs.getD i []).length
  ·rw [Ga hc hs hp ht hi k] at h;omega
  ·omega
 refine ⟨hc,hs,hp,ht,hl,λ i j hi hj=>?_⟩;cases hb:Y5 np ((cs.getD i []).getD j (0,[])) with
 |true=>rw [Gb hc hs hp ht hl hi hj hb] at h;omega
 |false=>
  unfold Y5 at hb;simp only [Bool.or_eq_false_iff,decide_eq_false_iff_not] at hb;omega
theorem Gr (c0 c1 c2 c3:Int) (ns np:Nat) (cs:List (List (Int×List Nat))):Yr c0 c1 c2 c3 ns np cs=0\/Yr c0 c1 c2 c3 ns np cs=1\/Yr c0 c1 c2 c3 ns np cs=160:=by
 unfold Yr;split
 ·simp
 ·split
  ·simp
  ·split
   ·simp
   ·split <;> simp
end
section
variable {w w':World} {c0 c1 c2 c3:Int} {ns np cs' cp ct:Nat} {cs:List (List (Int×List Nat))} {sa ap at':Option Addr} {vt:Value}
theorem wrong_a (h:¬ Yq c0 c1 c2 c3):Calls Tryz.prog 38 #[.agg #[.int .i64 c0,.int .i64 c1,.int .i64 c2,.int .i64 c3,.slice sa ns cs',.slice ap np cp,.slice at' cs.length ct]] w λ e w'=>e=.returned (.int .i64 (Yr c0 c1 c2 c3 ns np cs))/\Ze [] w w':=by
 have hr:Yr c0 c1 c2 c3 ns np cs=1:=U5 (.inl h);rw [hr];have hP:=As c0 c1 c2 c3 h;clear h hr;go_enter func38,ntmps38;go_wp2_with fail;refine (hP _).mono ?_;rintro e w1 ⟨rfl,m1⟩;have M1:=Zh_ (((Zr_ _ w).alloc (.cells #[.int .i64 c0,.int .i64 c1,.int .i64 c2,.int .i64 c3,.slice sa ns cs',.slice ap np cp,.slice at' cs.length ct] 28)).trans m1);clear hP m1;go_wp2;go_ret;exact ⟨rfl,by first|exact M1.out|exact M1.out.alloc _⟩
theorem wrong_b (hc:Yq c0 c1 c2 c3) (h:c0 < ns):Calls Tryz.prog 38 #[.agg #[.int .i64 c0,.int .i64 c1,.int .i64 c2,.int .i64 c3,.slice sa ns cs',.slice ap np cp,.slice at' cs.length ct]] w λ e w'=>e=.returned (.int .i64 (Yr c0 c1 c2 c3 ns np cs))/\Ze [] w w':=by
 rw [U5 (.inr h)];have hP:=Vp c0 c1 c2 c3 hc;have hc8:c1<=8:=hc.2.2.2.1;have hd1:decide ((ns:Int) > c0)=true:=decide_eq_true (by omega);go_enter func38,ntmps38;go_wp2_with fail;refine (hP _).mono ?_;rintro e w1 ⟨rfl,m1⟩;have M1:=Zh_ (((Zr_ _ w).alloc (.cells #[.int .i64 c0,.int .i64 c1,.int .i64 c2,.int .i64 c3,.slice sa ns cs',.slice ap np cp,.slice at' cs.length ct] 28)).trans m1);have B1:=m1.at (Zc w (.cells #[.int .i64 c0,.int .i64 c1,.int .i64 c2,.int .i64 c3,.slice sa ns cs',.slice ap np cp,.slice at' cs.length ct] 28)) (by simp);obtain ⟨k,hk⟩:∃ k,k=w.heap.size:=⟨_,rfl⟩;go_upto_region 2 with fail;have B2:=Zf (.cells #[.int .i64 0,.int .i64 1,.int .i64 2,.int .i64 3,.int .i64 (3+c1),.int .i64 (3+c1+3 * c0)] 74) B1;have M2:=Zh_ (M1.out.alloc (.cells #[.int .i64 0,.int .i64 1,.int .i64 2,.int .i64 3,.int .i64 (3+c1),.int .i64 (3+c1+3 * c0)] 74));clear M1 m1 B1 hP;generalize w1.alloc (.cells #[.int .i64 0,.int .i64 1,.int .i64 2,.int .i64 3,.int .i64 (3+c1),.int .i64 (3+c1+3 * c0)] 74)=w2 at *
 rw [<-hk] at B2 ⊢
 have x0:=Za (i:=0) B2 rfl;have x1:=Za (i:=1) B2 rfl;have x4:=Za (i:=4) B2 rfl;have x5:=Za (i:=5) B2 rfl;have x6:=Za (i:=6) B2 rfl;have HB2:=Zh_ B2;have HK:=Zh_ hk;clear B2 hk;go_wp2;go_ret;exact ⟨rfl,M2.out⟩
theorem wrong_d (hc:Yq c0 c1 c2 c3) (hs:(ns:Int)<=c0) (h:64 < np):Calls Tryz.prog 38 #[.agg #[.int .i64 c0,.int .i64 c1,.int .i64 c2,.int .i64 c3,.slice sa ns cs',.slice ap np cp,.slice at' cs.length ct]] w λ e w'=>e=.returned (.int .i64 (Yr c0 c1 c2 c3 ns np cs))/\Ze [] w w':=by
 rw [Uc hc hs (.inl h)];have hP:=Vp c0 c1 c2 c3 hc;have hc8:c1<=8:=hc.2.2.2.1;have hd1:decide ((ns:Int) > c0)=false:=decide_eq_false (by omega);have hd2:decide ((np:Int) > 64)=true:=decide_eq_true (by omega);go_enter func38,ntmps38;go_wp2_with fail;refine (hP _).mono ?_;rintro e w1 ⟨rfl,m1⟩;have M1:=Zh_ (((Zr_ _ w).alloc (.cells #[.int .i64 c0,.int .i64 c1,.int .i64 c2,.int .i64 c3,.slice sa ns cs',.slice ap np cp,.slice at' cs.length ct] 28)).trans m1);have B1:=m1.at (Zc w (.cells #[.int .i64 c0,.int .i64 c1,.int .i64 c2,.int .i64 c3,.slice sa ns cs',.slice ap np cp,.slice at' cs.length ct] 28)) (by simp);obtain ⟨k,hk⟩:∃ k,k=w.heap.size:=⟨_,rfl⟩;go_upto_region 2 with fail;have B2:=Zf (.cells #[.int .i64 0,.int .i64 1,.int .i64 2,.int .i64 3,.int .i64 (3+c1),.int .i64 (3+c1+3 * c0)] 74) B1;have M2:=Zh_ (M1.out.alloc (.cells #[.int .i64 0,.int .i64 1,.int .i64 2,.int .i64 3,.int .i64 (3+c1),.int .i64 (3+c1+3 * c0)] 74));clear M1 m1 B1 hP;generalize w1.alloc (.cells #[.int .i64 0,.int .i64 1,.int .i64 2,.int .i64 3,.int .i64 (3+c1),.int .i64 (3+c1+3 * c0)] 74)=w2 at *
 rw [<-hk] at B2 ⊢
 have x0:=Za (i:=0) B2 rfl;have x1:=Za (i:=1) B2 rfl;have x4:=Za (i:=4) B2 rfl;have x5:=Za (i:=5) B2 rfl;have x6:=Za (i:=6) B2 rfl;have HB2:=Zh_ B2;have HK:=Zh_ hk;clear B2 hk;go_wp2;go_ret;exact ⟨rfl,M2.out⟩
theorem wrong_e (hc:Yq c0 c1 c2 c3) (hs:(ns:Int)<=c0) (hp:np<=64) (h:c1 < cs.length):Calls Tryz.prog 38 #[.agg #[.int .i64 c0,.int .i64 c1,.int .i64 c2,.int .i64 c3,.slice sa ns cs',.slice ap np cp,.slice at' cs.length ct]] w λ e w'=>e=.returned (.int .i64 (Yr c0 c1 c2 c3 ns np cs))/\Ze [] w w':=by
 rw [Uc hc hs (.inr h)];have hP:=Vp c0 c1 c2 c3 hc;have hc8:c1<=8:=hc.2.2.2.1;have hd1:decide ((ns:Int) > c0)=false:=decide_eq_false (by omega);have hd2:decide ((np:Int) > 64)=false:=decide_eq_false (by omega);have hd3:decide ((cs.length:Int) > c1)=true:=decide_eq_true (by omega);go_enter func38,ntmps38;go_wp2_with fail;refine (hP _).mono ?_;rintro e w1 ⟨rfl,m1⟩;have M1:=Zh_ (((Zr_ _ w).alloc (.cells #[.int .i64 c0,.int .i64 c1,.int .i64 c2,.int .i64 c3,.slice sa ns cs',.slice ap np cp,.slice at' cs.length ct] 28)).trans m1);have B1:=m1.at (Zc w (.cells #[.int .i64 c0,.int .i64 c1,.int .i64 c2,.int .i64 c3,.slice sa ns cs',.slice ap np cp,.slice at' cs.length ct] 28)) (by simp);obtain ⟨k,hk⟩:∃ k,k=w.heap.size:=⟨_,rfl⟩;go_upto_region 2 with fail;have B2:=Zf (.cells #[.int .i64 0,.int .i64 1,.int .i64 2,.int .i64 3,.int .i64 (3+c1),.int .i64 (3+c1+3 * c0)] 74) B1;have M2:=Zh_ (M1.out.alloc (.cells #[.int .i64 0,.int .i64 1,.int .i64 2,.int .i64 3,.int .i64 (3+c1),.int .i64 (3+c1+3 * c0)] 74));clear M1 m1 B1 hP;generalize w1.alloc (.cells #[.int .i64 0,.int .i64 1,.int .i64 2,.int .i64 3,.int .i64 (3+c1),.int .i64 (3+c1+3 * c0)] 74)=w2 at *
 rw [<-hk] at B2 ⊢
 have x0:=Za (i:=0) B2 rfl;have x1:=Za (i:=1) B2 rfl;have x4:=Za (i:=4) B2 rfl;have x5:=Za (i:=5) B2 rfl;have x6:=Za (i:=6) B2 rfl;have HB2:=Zh_ B2;have HK:=Zh_ hk;clear B2 hk;go_wp2;go_ret;exact ⟨rfl,M2.out⟩
theorem wrong_f (hc:Yq c0 c1 c2 c3) (hs:(ns:Int)<=c0) (hp:np<=64) (ht:(cs.length:Int)<=c1) (hT:T3 w (.slice at' cs.length ct) cs):Calls Tryz.prog 38 #[.agg #[.int .i64 c0,.int .i64 c1,.int .i64 c2,.int .i64 c3,.slice sa ns cs',.slice ap np cp,.slice at' cs.length ct]] w λ e w'=>e=.returned (.int .i64 (Yr c0 c1 c2 c3 ns np cs))/\Ze [] w w':=by
 obtain ⟨rv,hrv⟩:∃ n,n=Yr c0 c1 c2 c3 ns np cs:=⟨_,rfl⟩;rw [<-hrv];have HL:=Zh_ (show ∀ i,i < cs.length->64 < (cs.getD i []).length->rv=160 from λ i hi h=>by rw [hrv];exact Ga hc hs hp ht hi h);have HB:=Zh_ (show (∀ i,i < cs.length->(cs.getD i []).length<=64)->∀ i j,i < cs.length->j < (cs.getD i []).length->Y5 np ((cs.getD i []).getD j (0,[]))=true->rv=1 from λ h i j hi hj hb=>by rw [hrv];exact Gb hc hs hp ht h hi hj hb);have HN:=Zh_ (show (∀ i,i < cs.length->(cs.getD i []).length<=64)->(∀ i j,i < cs.length->j < (cs.getD i []).length->Y5 np ((cs.getD i []).getD j (0,[]))=false)->rv=0 from λ h k=>by rw [hrv];exact Jg hc hs hp ht h k);clear hrv;obtain ⟨a_,c_,he,hT⟩:=hT;simp only [Value.slice.injEq] at he;obtain ⟨rfl,-,rfl⟩:=he;have HT:=Zh_ hT;clear hT;have hP:=Vp c0 c1 c2 c3 hc;have hc8:c1<=8:=hc.2.2.2.1;have hd1:decide ((ns:Int) > c0)=false:=decide_eq_false (by omega);have hd2:decide ((np:Int) > 64)=false:=decide_eq_false (by omega);have hd3:decide ((cs.length:Int) > c1)=false:=decide_eq_false (by omega);go_enter func38,ntmps38;go_wp2_with fail;refine (hP _).mono ?_;rintro e w1 ⟨rfl,m1⟩;have M1:=Zh_ (((Zr_ _ w).alloc (.cells #[.int .i64 c0,.int .i64 c1,.int .i64 c2,.int .i64 c3,.slice sa ns cs',.slice ap np cp,.slice at' cs.length ct] 28)).trans m1);have B1:=m1.at (Zc w (.cells #[.int .i64 c0,.int .i64 c1,.int .i64 c2,.int .i64 c3,.slice sa ns cs',.slice ap np cp,.slice at' cs.length ct] 28)) (by simp);obtain ⟨k,hk⟩:∃ k,k=w.heap.size:=⟨_,rfl⟩;go_upto_region 2 with fail;have B2:=Zf (.cells #[.int .i64 0,.int .i64 1,.int .i64 2,.int .i64 3,.int .i64 (3+c1),.int .i64 (3+c1+3 * c0)] 74) B1;have M2:=Zh_ (M1.out.alloc (.cells #[.int .i64 0,.int .i64 1,.int .i64 2,.int .i64 3,.int .i64 (3+c1),.int .i64 (3+c1+3 * c0)] 74));clear M1 m1 B1 hP;generalize w1.alloc (.cells #[.int .i64 0,.int .i64 1,.int .i64 2,.int .i64 3,.int .i64 (3+c1),.int .i64 (3+c1+3 * c0)] 74)=w2 at *
 rw [<-hk] at B2 ⊢
 have x0:=Za (i:=0) B2 rfl;have x1:=Za (i:=1) B2 rfl;have x4:=Za (i:=4) B2 rfl;have x5:=Za (i:=5) B2 rfl;have x6:=Za (i:=6) B2 rfl;have HB2:=Zh_ B2;have HK:=Zh_ hk;clear B2 hk;go_upto_region 6 with fail;go_wp2_with fail
 go_loopw [44] (λ i wx=>∃ z:Nat,z<=cs.length/\i=.int .i64 z/\Ze [] w2 wx/\∀ i,i < z->(cs.getD i []).length<=64) (λ i _=>cs.length - (intOf i).toNat)
 case atStart=>exact ⟨0,by omega,rfl,Zr_ _ _,λ i hi=>absurd hi (by omega)⟩
 case round=>
  clear x0 x1 x4 x5 x6;obtain ⟨z,hz,rfl,m,hall⟩:=hrel;have HM:=Zh_ m;have HA:=Zh_ hall;have HG:=Zh_ (HB2.out);clear hall
  by_cases hlt:z < cs.length
  ·have d4:decide ((z:Int) < (cs.length:Int))=true:=decide_eq_true (by omega);obtain ⟨g,oo,u,rfl,hg,h1,h2⟩:=HT.out z hlt;obtain ⟨a,ca,rfl,_⟩:=h2;have h1':=Zy (M2.out.trans HM.out) hg (by simp) h1
   by_cases hbig:64 < (cs.getD z []).length
   ·have hr:=HL.out z hlt hbig;have hl6:decide (((cs.getD z []).length:Int) > 64)=true:=decide_eq_true (by omega);obtain ⟨q,hq⟩:∃ q,q=(cs.getD z []).length:=⟨_,rfl⟩;rw [<-hq] at h1' hl6;subst hr;clear h1 hq m hg hbig;go_wp2;go_ret;exact ⟨rfl,M2.out.trans HM.out⟩
   ·have hl6:decide (((cs.getD z []).length:Int) > 64)=false:=decide_eq_false (by omega);have HA2:=Zh_ (show ∀ i,i < z+1->(cs.getD i []).length<=64 from λ i hi=>by
     by_cases e:i=z
     ·rw [e];omega
     ·exact HA.out i (by omega))
    obtain ⟨q,hq⟩:∃ q,q=(cs.getD z []).length:=⟨_,rfl⟩;rw [<-hq] at h1' hl6;clear h1 hq m hg hbig;go_wp2_with fail;go_roundw
    case rel=>exact ⟨z+1,by omega,by go_num,HM.out,HA2.out⟩
    case measure=>simp [intOf];omega
  ·have d4:decide ((z:Int) < (cs.length:Int))=false:=decide_eq_false (by omega);have H64:=Zh_ (show ∀ i,i < cs.length->(cs.getD i []).length<=64 from λ i hi=>HA.out i (by omega));have x6:=Za (i:=6) (HM.out.at HB2.out (by simp)) rfl;clear m;go_wp2_with fail;have M3:=Zh_ (M2.out.trans HM.out);have B3:=Zh_ (HM.out.at HB2.out (by simp));clear HM x6 d4 hlt hz M2 HB2 HA HL;generalize wr=w3 at *
   go_loopw [55] (λ i wx=>∃ z:Nat,z<=cs.length/\i=.int .i64 z/\Ze [] w3 wx/\∀ i j,i < z->j < (cs.getD i []).length->Y5 np ((cs.getD i []).getD j (0,[]))=false) (λ i _=>cs.length - (intOf i).toNat)
   case atStart=>exact ⟨0,by omega,rfl,Zr_ _ _,λ i j hi=>absurd hi (by omega)⟩
   case round=>
    obtain ⟨y,hy,rfl,m,hall⟩:=hrel;have HM:=Zh_ m;have HA:=Zh_ hall;clear hall
    by_cases hlt:y < cs.length
    ·have d4:decide ((y:Int) < (cs.length:Int))=true:=decide_eq_true (by omega);obtain ⟨g,oo,u,rfl,hg,h1,h2⟩:=HT.out y hlt;obtain ⟨a,ca,rfl,h2⟩:=h2;have h1':=Zy (M3.out.trans HM.out) hg (by simp) h1;obtain ⟨l,hl⟩:∃ l,l=cs.getD y []:=⟨_,rfl⟩;rw [<-hl] at h1' h2;have HBL:=Zh_ (show ∀ j,j < l.length->Y5 np (l.getD j (0,[]))=true->rv=1 from λ j hj hb=>HB.out H64.out y j hlt (by rw [<-hl];exact hj) (by rw [<-hl];exact hb));have hl64:l.length<=64:=by rw [hl];exact H64.out y hlt
     have HLL:=Zh_ hl;have H2:=Zh_ h2;clear h1 hg m hl h2;go_wp2_with fail
     go_loopw [61] (λ i wx=>∃ j:Nat,j<=l.length/\i=.int .i64 j/\Ze [] w3 wx/\∀ i,i < j->Y5 np (l.getD i (0,[]))=false) (λ i _=>l.length - (intOf i).toNat)
     case atStart=>exact ⟨0,by omega,rfl,HM.out,λ i hi=>absurd hi (by omega)⟩
     case round=>
      obtain ⟨j,hj,rfl,m,hall⟩:=hrel;have HM4:=Zh_ m;have HA4:=Zh_ hall;clear h1' hall
      by_cases hlj:j < l.length
      ·have d5:decide ((j:Int) < (l.length:Int))=true:=decide_eq_true (by omega);obtain ⟨h,o5,aa,cc,rfl,hh,k1,k2⟩:=H2.out j hlj;have hbad:Y5 np (l.getD j (0,[]))=(decide ((l.getD j (0,[])).1 < 0) || decide ((np:Int)<=(l.getD j (0,[])).1) || decide (8 < (l.getD j (0,[])).2.length)):=rfl;have HR:=Zh_ (HBL.out j hlj);have HG2:=Zh_ (show Y5 np (l.getD j (0,[]))=false->∀ i,i < j+1->Y5 np (l.getD i (0,[]))=false from λ hb i hi=>by
        by_cases e:i=j
        ·rw [e];exact hb
        ·exact HA4.out i (by omega))
       rw [hbad] at HR HG2;obtain ⟨p,hp'⟩:∃ p,p=(l.getD j (0,[])).1:=⟨_,rfl⟩;obtain ⟨n,hn⟩:∃ n,n=(l.getD j (0,[])).2.length:=⟨_,rfl⟩;rw [<-hp',<-hn] at HR HG2;rw [<-hp'] at k1;rw [<-hn] at k2;have k1':=Zy (M3.out.trans HM4.out) hh (by simp) k1;have k2':=Zy (M3.out.trans HM4.out) hh (by simp) k2;clear k1 k2 hn hp' hh m hbad;have B5:=Zf (.cells #[.int .i64 p,.slice aa n cc] 63) (HM4.out.at B3.out (by simp));have M5:=Zh_ (HM4.out.alloc (.cells #[.int .i64 p,.slice aa n cc] 63));have x5:=Za (i:=5) B5 rfl;clear B5
       by_cases q1:p < 0
       ·have hr:=HR.out (by simp [q1]);have e1:decide (p < 0)=true:=decide_eq_true q1;subst hr;clear HR HG2 q1 HBL HB HN;go_upto_region 18 with fail;clear k1' k2';go_wp2_with fail;go_ret;exact ⟨rfl,M3.out.trans M5.out⟩
       have e1:decide (p < 0)=false:=decide_eq_false q1
       by_cases q2:(np:Int)<=p
       ·have hr:=HR.out (by simp [q2]);have e2:decide (p>=(np:Int))=true:=decide_eq_true (by omega);subst hr;clear HR HG2 q1 q2 HBL HB HN;go_upto_region 18 with fail;clear k1' k2';go_wp2_with fail;go_ret;exact ⟨rfl,M3.out.trans M5.out⟩
       have e2:decide (p>=(np:Int))=false:=decide_eq_false (by omega)
       by_cases q3:8 < n
       ·have hr:=HR.out (by simp [q3]);have e3:decide ((n:Int) > 8)=true:=decide_eq_true (by omega);subst hr;clear HR HG2 q1 q2 q3 HBL HB HN;go_upto_region 18 with fail;clear k1' k2';go_wp2_with fail;go_ret;exact ⟨rfl,M3.out.trans M5.out⟩
       have e3:decide ((n:Int) > 8)=false:=decide_eq_false (by omega);have HA5:=Zh_ (HG2.out (by simp [q1,q2,q3]));clear q1 q2 q3 HR HG2;go_upto_region 18 with fail;clear k1' k2';go_wp2_with fail;go_roundw
       case rel=>exact ⟨j+1,by omega,by go_num,M5.out,HA5.out⟩
       case measure=>simp [intOf];omega
      ·have d5:decide ((j:Int) < (l.length:Int))=false:=decide_eq_false (by omega);have HA5:=Zh_ (show ∀ i j,i < y+1->j < (cs.getD i []).length->Y5 np ((cs.getD i []).getD j (0,[]))=false from λ i' j' hi hj=>by
        by_cases e:i'=y
        ·rw [e] at hj ⊢
         rw [<-HLL.out] at hj ⊢
         exact HA4.out j' (by omega)
        ·exact HA.out i' j' (by omega) hj)
       clear m;go_wp2_with fail;go_roundw
       case rel=>exact ⟨y+1,by omega,by go_num,HM4.out,HA5.out⟩
       case measure=>simp [intOf];omega
    ·have d4:decide ((y:Int) < (cs.length:Int))=false:=decide_eq_false (by omega);have hr:=HN.out H64.out (λ i j hi hj=>HA.out i j (by omega) hj);subst hr;clear m HB HN;go_wp2;go_ret;exact ⟨rfl,M3.out.trans HM.out⟩
theorem Rd (hT:T3 w vt cs):Calls Tryz.prog 38 #[.agg #[.int .i64 c0,.int .i64 c1,.int .i64 c2,.int .i64 c3,.slice sa ns cs',.slice ap np cp,vt]] w λ e w'=>e=.returned (.int .i64 (Yr c0 c1 c2 c3 ns np cs))/\Ze [] w w':=by
 obtain ⟨at',ct,rfl,hT'⟩:=id hT
 by_cases hc:Yq c0 c1 c2 c3
 ·by_cases hs:c0 < ns
  ·exact wrong_b hc hs
  ·by_cases hp:64 < np
   ·exact wrong_d hc (by omega) hp
   ·by_cases ht:c1 < cs.length
    ·exact wrong_e hc (by omega) (by omega) ht
    ·exact wrong_f hc (by omega) (by omega) (by omega) hT
 ·exact wrong_a hc
end
section
variable {w w':World} {c0 c1 c2 c3:Int} {ns np cs' cp ct:Nat} {cs:List (List (Int×List Nat))} {sa ap at':Option Addr} {vt:Value}
theorem Ss (h:¬ Yq c0 c1 c2 c3):Calls Tryz.prog 22 #[.agg #[.int .i64 c0,.int .i64 c1,.int .i64 c2,.int .i64 c3,.slice sa ns cs',.slice ap np cp,.slice at' cs.length ct]] w λ e w'=>e=.returned (.int .i64 (Yr c0 c1 c2 c3 ns np cs))/\Ze [] w w':=by
 have hr:Yr c0 c1 c2 c3 ns np cs=1:=U5 (.inl h);rw [hr];have hP:=Cx c0 c1 c2 c3 h;clear h hr;go_enter func22,ntmps22;go_wp2_with fail;refine (hP _).mono ?_;rintro e w1 ⟨rfl,m1⟩;have M1:=Zh_ (((Zr_ _ w).alloc (.cells #[.int .i64 c0,.int .i64 c1,.int .i64 c2,.int .i64 c3,.slice sa ns cs',.slice ap np cp,.slice at' cs.length ct] 28)).trans m1);clear hP m1;go_wp2;go_ret;exact ⟨rfl,by first|exact M1.out|exact M1.out.alloc _⟩
theorem Sr (hc:Yq c0 c1 c2 c3) (h:c0 < ns):Calls Tryz.prog 22 #[.agg #[.int .i64 c0,.int .i64 c1,.int .i64 c2,.int .i64 c3,.slice sa ns cs',.slice ap np cp,.slice at' cs.length ct]] w λ e w'=>e=.returned (.int .i64 (Yr c0 c1 c2 c3 ns np cs))/\Ze [] w w':=by
 rw [U5 (.inr h)];have hP:=Kf c0 c1 c2 c3 hc;have hc8:c1<=8:=hc.2.2.2.1;have hd1:decide ((ns:Int) > c0)=true:=decide_eq_true (by omega);go_enter func22,ntmps22;go_wp2_with fail;refine (hP _).mono ?_;rintro e w1 ⟨rfl,m1⟩;have M1:=Zh_ (((Zr_ _ w).alloc (.cells #[.int .i64 c0,.int .i64 c1,.int .i64 c2,.int .i64 c3,.slice sa ns cs',.slice ap np cp,.slice at' cs.length ct] 28)).trans m1);have B1:=m1.at (Zc w (.cells #[.int .i64 c0,.int .i64 c1,.int .i64 c2,.int .i64 c3,.slice sa ns cs',.slice ap np cp,.slice at' cs.length ct] 28)) (by simp);obtain ⟨k,hk⟩:∃ k,k=w.heap.size:=⟨_,rfl⟩;go_upto_region 2 with fail;have B2:=Zf (.cells #[.int .i64 0,.int .i64 1,.int .i64 2,.int .i64 3,.int .i64 (3+c1),.int .i64 (3+c1+3 * c0)] 74) B1;have M2:=Zh_ (M1.out.alloc (.cells #[.int .i64 0,.int .i64 1,.int .i64 2,.int .i64 3,.int .i64 (3+c1),.int .i64 (3+c1+3 * c0)] 74));clear M1 m1 B1 hP;generalize w1.alloc (.cells #[.int .i64 0,.int .i64 1,.int .i64 2,.int .i64 3,.int .i64 (3+c1),.int .i64 (3+c1+3 * c0)] 74)=w2 at *
 rw [<-hk] at B2 ⊢
 have x0:=Za (i:=0) B2 rfl;have x1:=Za (i:=1) B2 rfl;have x4:=Za (i:=4) B2 rfl;have x5:=Za (i:=5) B2 rfl;have x6:=Za (i:=6) B2 rfl;have HB2:=Zh_ B2;have HK:=Zh_ hk;clear B2 hk;go_wp2;go_ret;exact ⟨rfl,M2.out⟩
theorem Sq (hc:Yq c0 c1 c2 c3) (hs:(ns:Int)<=c0) (h:64 < np):Calls Tryz.prog 22 #[.agg #[.int .i64 c0,.int .i64 c1,.int .i64 c2,.int .i64 c3,.slice sa ns cs',.slice ap np cp,.slice at' cs.length ct]] w λ e w'=>e=.returned (.int .i64 (Yr c0 c1 c2 c3 ns np cs))/\Ze [] w w':=by
 rw [Uc hc hs (.inl h)];have hP:=Kf c0 c1 c2 c3 hc;have hc8:c1<=8:=hc.2.2.2.1;have hd1:decide ((ns:Int) > c0)=false:=decide_eq_false (by omega);have hd2:decide ((np:Int) > 64)=true:=decide_eq_true (by omega);go_enter func22,ntmps22;go_wp2_with fail;refine (hP _).mono ?_;rintro e w1 ⟨rfl,m1⟩;have M1:=Zh_ (((Zr_ _ w).alloc (.cells #[.int .i64 c0,.int .i64 c1,.int .i64 c2,.int .i64 c3,.slice sa ns cs',.slice ap np cp,.slice at' cs.length ct] 28)).trans m1);have B1:=m1.at (Zc w (.cells #[.int .i64 c0,.int .i64 c1,.int .i64 c2,.int .i64 c3,.slice sa ns cs',.slice ap np cp,.slice at' cs.length ct] 28)) (by simp);obtain ⟨k,hk⟩:∃ k,k=w.heap.size:=⟨_,rfl⟩;go_upto_region 2 with fail;have B2:=Zf (.cells #[.int .i64 0,.int .i64 1,.int .i64 2,.int .i64 3,.int .i64 (3+c1),.int .i64 (3+c1+3 * c0)] 74) B1;have M2:=Zh_ (M1.out.alloc (.cells #[.int .i64 0,.int .i64 1,.int .i64 2,.int .i64 3,.int .i64 (3+c1),.int .i64 (3+c1+3 * c0)] 74));clear M1 m1 B1 hP;generalize w1.alloc (.cells #[.int .i64 0,.int .i64 1,.int .i64 2,.int .i64 3,.int .i64 (3+c1),.int .i64 (3+c1+3 * c0)] 74)=w2 at *
 rw [<-hk] at B2 ⊢
 have x0:=Za (i:=0) B2 rfl;have x1:=Za (i:=1) B2 rfl;have x4:=Za (i:=4) B2 rfl;have x5:=Za (i:=5) B2 rfl;have x6:=Za (i:=6) B2 rfl;have HB2:=Zh_ B2;have HK:=Zh_ hk;clear B2 hk;go_wp2;go_ret;exact ⟨rfl,M2.out⟩
theorem Sp (hc:Yq c0 c1 c2 c3) (hs:(ns:Int)<=c0) (hp:np<=64) (h:c1 < cs.length):Calls Tryz.prog 22 #[.agg #[.int .i64 c0,.int .i64 c1,.int .i64 c2,.int .i64 c3,.slice sa ns cs',.slice ap np cp,.slice at' cs.length ct]] w λ e w'=>e=.returned (.int .i64 (Yr c0 c1 c2 c3 ns np cs))/\Ze [] w w':=by
 rw [Uc hc hs (.inr h)];have hP:=Kf c0 c1 c2 c3 hc;have hc8:c1<=8:=hc.2.2.2.1;have hd1:decide ((ns:Int) > c0)=false:=decide_eq_false (by omega);have hd2:decide ((np:Int) > 64)=false:=decide_eq_false (by omega);have hd3:decide ((cs.length:Int) > c1)=true:=decide_eq_true (by omega);go_enter func22,ntmps22;go_wp2_with fail;refine (hP _).mono ?_;rintro e w1 ⟨rfl,m1⟩;have M1:=Zh_ (((Zr_ _ w).alloc (.cells #[.int .i64 c0,.int .i64 c1,.int .i64 c2,.int .i64 c3,.slice sa ns cs',.slice ap np cp,.slice at' cs.length ct] 28)).trans m1);have B1:=m1.at (Zc w (.cells #[.int .i64 c0,.int .i64 c1,.int .i64 c2,.int .i64 c3,.slice sa ns cs',.slice ap np cp,.slice at' cs.length ct] 28)) (by simp);obtain ⟨k,hk⟩:∃ k,k=w.heap.size:=⟨_,rfl⟩;go_upto_region 2 with fail;have B2:=Zf (.cells #[.int .i64 0,.int .i64 1,.int .i64 2,.int .i64 3,.int .i64 (3+c1),.int .i64 (3+c1+3 * c0)] 74) B1;have M2:=Zh_ (M1.out.alloc (.cells #[.int .i64 0,.int .i64 1,.int .i64 2,.int .i64 3,.int .i64 (3+c1),.int .i64 (3+c1+3 * c0)] 74));clear M1 m1 B1 hP;generalize w1.alloc (.cells #[.int .i64 0,.int .i64 1,.int .i64 2,.int .i64 3,.int .i64 (3+c1),.int .i64 (3+c1+3 * c0)] 74)=w2 at *
 rw [<-hk] at B2 ⊢
 have x0:=Za (i:=0) B2 rfl;have x1:=Za (i:=1) B2 rfl;have x4:=Za (i:=4) B2 rfl;have x5:=Za (i:=5) B2 rfl;have x6:=Za (i:=6) B2 rfl;have HB2:=Zh_ B2;have HK:=Zh_ hk;clear B2 hk;go_wp2;go_ret;exact ⟨rfl,M2.out⟩
theorem So (hc:Yq c0 c1 c2 c3) (hs:(ns:Int)<=c0) (hp:np<=64) (ht:(cs.length:Int)<=c1) (hT:T3 w (.slice at' cs.length ct) cs):Calls Tryz.prog 22 #[.agg #[.int .i64 c0,.int .i64 c1,.int .i64 c2,.int .i64 c3,.slice sa ns cs',.slice ap np cp,.slice at' cs.length ct]] w λ e w'=>e=.returned (.int .i64 (Yr c0 c1 c2 c3 ns np cs))/\Ze [] w w':=by
 obtain ⟨rv,hrv⟩:∃ n,n=Yr c0 c1 c2 c3 ns np cs:=⟨_,rfl⟩;rw [<-hrv];have HL:=Zh_ (show ∀ i,i < cs.length->64 < (cs.getD i []).length->rv=160 from λ i hi h=>by rw [hrv];exact Ga hc hs hp ht hi h);have HB:=Zh_ (show (∀ i,i < cs.length->(cs.getD i []).length<=64)->∀ i j,i < cs.length->j < (cs.getD i []).length->Y5 np ((cs.getD i []).getD j (0,[]))=true->rv=1 from λ h i j hi hj hb=>by rw [hrv];exact Gb hc hs hp ht h hi hj hb);have HN:=Zh_ (show (∀ i,i < cs.length->(cs.getD i []).length<=64)->(∀ i j,i < cs.length->j < (cs.getD i []).length->Y5 np ((cs.getD i []).getD j (0,[]))=false)->rv=0 from λ h k=>by rw [hrv];exact Jg hc hs hp ht h k);clear hrv;obtain ⟨a_,c_,he,hT⟩:=hT;simp only [Value.slice.injEq] at he;obtain ⟨rfl,-,rfl⟩:=he;have HT:=Zh_ hT;clear hT;have hP:=Kf c0 c1 c2 c3 hc;have hc8:c1<=8:=hc.2.2.2.1;have hd1:decide ((ns:Int) > c0)=false:=decide_eq_false (by omega);have hd2:decide ((np:Int) > 64)=false:=decide_eq_false (by omega);have hd3:decide ((cs.length:Int) > c1)=false:=decide_eq_false (by omega);go_enter func22,ntmps22;go_wp2_with fail;refine (hP _).mono ?_;rintro e w1 ⟨rfl,m1⟩;have M1:=Zh_ (((Zr_ _ w).alloc (.cells #[.int .i64 c0,.int .i64 c1,.int .i64 c2,.int .i64 c3,.slice sa ns cs',.slice ap np cp,.slice at' cs.length ct] 28)).trans m1);have B1:=m1.at (Zc w (.cells #[.int .i64 c0,.int .i64 c1,.int .i64 c2,.int .i64 c3,.slice sa ns cs',.slice ap np cp,.slice at' cs.length ct] 28)) (by simp);obtain ⟨k,hk⟩:∃ k,k=w.heap.size:=⟨_,rfl⟩;go_upto_region 2 with fail;have B2:=Zf (.cells #[.int .i64 0,.int .i64 1,.int .i64 2,.int .i64 3,.int .i64 (3+c1),.int .i64 (3+c1+3 * c0)] 74) B1;have M2:=Zh_ (M1.out.alloc (.cells #[.int .i64 0,.int .i64 1,.int .i64 2,.int .i64 3,.int .i64 (3+c1),.int .i64 (3+c1+3 * c0)] 74));clear M1 m1 B1 hP;generalize w1.alloc (.cells #[.int .i64 0,.int .i64 1,.int .i64 2,.int .i64 3,.int .i64 (3+c1),.int .i64 (3+c1+3 * c0)] 74)=w2 at *
 rw [<-hk] at B2 ⊢
 have x0:=Za (i:=0) B2 rfl;have x1:=Za (i:=1) B2 rfl;have x4:=Za (i:=4) B2 rfl;have x5:=Za (i:=5) B2 rfl;have x6:=Za (i:=6) B2 rfl;have HB2:=Zh_ B2;have HK:=Zh_ hk;clear B2 hk;go_upto_region 6 with fail;go_wp2_with fail
 go_loopw [44] (λ i wx=>∃ z:Nat,z<=cs.length/\i=.int .i64 z/\Ze [] w2 wx/\∀ i,i < z->(cs.getD i []).length<=64) (λ i _=>cs.length - (intOf i).toNat)
 case atStart=>exact ⟨0,by omega,rfl,Zr_ _ _,λ i hi=>absurd hi (by omega)⟩
 case round=>
  clear x0 x1 x4 x5 x6;obtain ⟨z,hz,rfl,m,hall⟩:=hrel;have HM:=Zh_ m;have HA:=Zh_ hall;have HG:=Zh_ (HB2.out);clear hall
  by_cases hlt:z < cs.length
  ·have d4:decide ((z:Int) < (cs.length:Int))=true:=decide_eq_true (by omega);obtain ⟨g,oo,u,rfl,hg,h1,h2⟩:=HT.out z hlt;obtain ⟨a,ca,rfl,_⟩:=h2;have h1':=Zy (M2.out.trans HM.out) hg (by simp) h1
   by_cases hbig:64 < (cs.getD z []).length
   ·have hr:=HL.out z hlt hbig;have hl6:decide (((cs.getD z []).length:Int) > 64)=true:=decide_eq_true (by omega);obtain ⟨q,hq⟩:∃ q,q=(cs.getD z []).length:=⟨_,rfl⟩;rw [<-hq] at h1' hl6;subst hr;clear h1 hq m hg hbig;go_wp2;go_ret;exact ⟨rfl,M2.out.trans HM.out⟩
   ·have hl6:decide (((cs.getD z []).length:Int) > 64)=false:=decide_eq_false (by omega);have HA2:=Zh_ (show ∀ i,i < z+1->(cs.getD i []).length<=64 from λ i hi=>by
     by_cases e:i=z
     ·rw [e];omega
     ·exact HA.out i (by omega))
    obtain ⟨q,hq⟩:∃ q,q=(cs.getD z []).length:=⟨_,rfl⟩;rw [<-hq] at h1' hl6;clear h1 hq m hg hbig;go_wp2_with fail;go_roundw
    case rel=>exact ⟨z+1,by omega,by go_num,HM.out,HA2.out⟩
    case measure=>simp [intOf];omega
  ·have d4:decide ((z:Int) < (cs.length:Int))=false:=decide_eq_false (by omega);have H64:=Zh_ (show ∀ i,i < cs.length->(cs.getD i []).length<=64 from λ i hi=>HA.out i (by omega));have x6:=Za (i:=6) (HM.out.at HB2.out (by simp)) rfl;clear m;go_wp2_with fail;have M3:=Zh_ (M2.out.trans HM.out);have B3:=Zh_ (HM.out.at HB2.out (by simp));clear HM x6 d4 hlt hz M2 HB2 HA HL;generalize wr=w3 at *
   go_loopw [55] (λ i wx=>∃ z:Nat,z<=cs.length/\i=.int .i64 z/\Ze [] w3 wx/\∀ i j,i < z->j < (cs.getD i []).length->Y5 np ((cs.getD i []).getD j (0,[]))=false) (λ i _=>cs.length - (intOf i).toNat)
   case atStart=>exact ⟨0,by omega,rfl,Zr_ _ _,λ i j hi=>absurd hi (by omega)⟩
   case round=>
    obtain ⟨y,hy,rfl,m,hall⟩:=hrel;have HM:=Zh_ m;have HA:=Zh_ hall;clear hall
    by_cases hlt:y < cs.length
    ·have d4:decide ((y:Int) < (cs.length:Int))=true:=decide_eq_true (by omega);obtain ⟨g,oo,u,rfl,hg,h1,h2⟩:=HT.out y hlt;obtain ⟨a,ca,rfl,h2⟩:=h2;have h1':=Zy (M3.out.trans HM.out) hg (by simp) h1;obtain ⟨l,hl⟩:∃ l,l=cs.getD y []:=⟨_,rfl⟩;rw [<-hl] at h1' h2;have HBL:=Zh_ (show ∀ j,j < l.length->Y5 np (l.getD j (0,[]))=true->rv=1 from λ j hj hb=>HB.out H64.out y j hlt (by rw [<-hl];exact hj) (by rw [<-hl];exact hb));have hl64:l.length<=64:=by rw [hl];exact H64.out y hlt
     have HLL:=Zh_ hl;have H2:=Zh_ h2;clear h1 hg m hl h2;go_wp2_with fail
     go_loopw [61] (λ i wx=>∃ j:Nat,j<=l.length/\i=.int .i64 j/\Ze [] w3 wx/\∀ i,i < j->Y5 np (l.getD i (0,[]))=false) (λ i _=>l.length - (intOf i).toNat)
     case atStart=>exact ⟨0,by omega,rfl,HM.out,λ i hi=>absurd hi (by omega)⟩
     case round=>
      obtain ⟨j,hj,rfl,m,hall⟩:=hrel;have HM4:=Zh_ m;have HA4:=Zh_ hall;clear h1' hall
      by_cases hlj:j < l.length
      ·have d5:decide ((j:Int) < (l.length:Int))=true:=decide_eq_true (by omega);obtain ⟨h,o5,aa,cc,rfl,hh,k1,k2⟩:=H2.out j hlj;have hbad:Y5 np (l.getD j (0,[]))=(decide ((l.getD j (0,[])).1 < 0) || decide ((np:Int)<=(l.getD j (0,[])).1) || decide (8 < (l.getD j (0,[])).2.length)):=rfl;have HR:=Zh_ (HBL.out j hlj);have HG2:=Zh_ (show Y5 np (l.getD j (0,[]))=false->∀ i,i < j+1->Y5 np (l.getD i (0,[]))=false from λ hb i hi=>by
        by_cases e:i=j
        ·rw [e];exact hb
        ·exact HA4.out i (by omega))
       rw [hbad] at HR HG2;obtain ⟨p,hp'⟩:∃ p,p=(l.getD j (0,[])).1:=⟨_,rfl⟩;obtain ⟨n,hn⟩:∃ n,n=(l.getD j (0,[])).2.length:=⟨_,rfl⟩;rw [<-hp',<-hn] at HR HG2;rw [<-hp'] at k1;rw [<-hn] at k2;have k1':=Zy (M3.out.trans HM4.out) hh (by simp) k1;have k2':=Zy (M3.out.trans HM4.out) hh (by simp) k2;clear k1 k2 hn hp' hh m hbad;have B5:=Zf (.cells #[.int .i64 p,.slice aa n cc] 63) (HM4.out.at B3.out (by simp));have M5:=Zh_ (HM4.out.alloc (.cells #[.int .i64 p,.slice aa n cc] 63));have x5:=Za (i:=5) B5 rfl;clear B5
       by_cases q1:p < 0
       ·have hr:=HR.out (by simp [q1]);have e1:decide (p < 0)=true:=decide_eq_true q1;subst hr;clear HR HG2 q1 HBL HB HN;go_upto_region 18 with fail;clear k1' k2';go_wp2_with fail;go_ret;exact ⟨rfl,M3.out.trans M5.out⟩
       have e1:decide (p < 0)=false:=decide_eq_false q1
       by_cases q2:(np:Int)<=p
       ·have hr:=HR.out (by simp [q2]);have e2:decide (p>=(np:Int))=true:=decide_eq_true (by omega);subst hr;clear HR HG2 q1 q2 HBL HB HN;go_upto_region 18 with fail;clear k1' k2';go_wp2_with fail;go_ret;exact ⟨rfl,M3.out.trans M5.out⟩
       have e2:decide (p>=(np:Int))=false:=decide_eq_false (by omega)
       by_cases q3:8 < n
       ·have hr:=HR.out (by simp [q3]);have e3:decide ((n:Int) > 8)=true:=decide_eq_true (by omega);subst hr;clear HR HG2 q1 q2 q3 HBL HB HN;go_upto_region 18 with fail;clear k1' k2';go_wp2_with fail;go_ret;exact ⟨rfl,M3.out.trans M5.out⟩
       have e3:decide ((n:Int) > 8)=false:=decide_eq_false (by omega);have HA5:=Zh_ (HG2.out (by simp [q1,q2,q3]));clear q1 q2 q3 HR HG2;go_upto_region 18 with fail;clear k1' k2';go_wp2_with fail;go_roundw
       case rel=>exact ⟨j+1,by omega,by go_num,M5.out,HA5.out⟩
       case measure=>simp [intOf];omega
      ·have d5:decide ((j:Int) < (l.length:Int))=false:=decide_eq_false (by omega);have HA5:=Zh_ (show ∀ i j,i < y+1->j < (cs.getD i []).length->Y5 np ((cs.getD i []).getD j (0,[]))=false from λ i' j' hi hj=>by
        by_cases e:i'=y
        ·rw [e] at hj ⊢
         rw [<-HLL.out] at hj ⊢
         exact HA4.out j' (by omega)
        ·exact HA.out i' j' (by omega) hj)
       clear m;go_wp2_with fail;go_roundw
       case rel=>exact ⟨y+1,by omega,by go_num,HM4.out,HA5.out⟩
       case measure=>simp [intOf];omega
    ·have d4:decide ((y:Int) < (cs.length:Int))=false:=decide_eq_false (by omega);have hr:=HN.out H64.out (λ i j hi hj=>HA.out i j (by omega) hj);subst hr;clear m HB HN;go_wp2;go_ret;exact ⟨rfl,M3.out.trans HM.out⟩
theorem Dl (hT:T3 w vt cs):Calls Tryz.prog 22 #[.agg #[.int .i64 c0,.int .i64 c1,.int .i64 c2,.int .i64 c3,.slice sa ns cs',.slice ap np cp,vt]] w λ e w'=>e=.returned (.int .i64 (Yr c0 c1 c2 c3 ns np cs))/\Ze [] w w':=by
 obtain ⟨at',ct,rfl,hT'⟩:=id hT
 by_cases hc:Yq c0 c1 c2 c3
 ·by_cases hs:c0 < ns
  ·exact Sr hc hs
  ·by_cases hp:64 < np
   ·exact Sq hc (by omega) hp
   ·by_cases ht:c1 < cs.length
    ·exact Sp hc (by omega) (by omega) ht
    ·exact So hc (by omega) (by omega) (by omega) hT
 ·exact Ss hc
end
section
theorem Nx {w:World} {o:Oper} {a:Act} {K:Value->World->Prop} (x:Tmp) (ho:o.op=.call {callee:=.builtin .append,args:=#[.const (.slice none 0 0),.tmp x],argTypes:=#[108,108]})
  (v:Value) (n:Nat) (xs:List Value) (hx:a.eval (.tmp x)=v) (hrow:U4 w 3 v n xs) (hone:∀ u∈xs,u.oneCell'=true) (hb:n<=5864062014635)
  (h:∀ u w',w'.ownsRow 0 106 3 u n xs->(∀ g,u.ownBlock=some g->w.heap.size<=g)->Ze [] w w'->K u w'):Jy Tryz.prog K ((execOp a.eval o).run Tryz.prog w):=by
 rcases hrow.2 with ⟨hv,h0⟩|⟨ad,cap,hv,hcs⟩
 ·subst h0;have hxs:xs=[]:=List.eq_nil_of_length_eq_zero (by simpa using hrow.1);rw [hv] at hx;have e:a.tmps[x]?.getD undef=.slice none 0 0:=by simpa [Act.eval] using hx
  obtain ⟨dst,op,ty,pos,after,guard⟩:=o;simp only at ho;subst ho;have hK:=h (.slice none 0 0) w (by rw [hxs];exact World.ownsRow_nil _ _ _ _) (by simp [Value.ownBlock]) (Zr_ _ _);clear h hx;go_simp;exact hK
 ·rw [hv] at hx;have hl:xs.length=n * 3:=hrow.1;obtain ⟨i0,hi0,hz0,hz1,hz2⟩:=info_parts R6;refine Xh (.const (.slice none 0 0)) (.tmp x) 108 ho 0 106 i0 (.agg #[.int .i64 0,.int .i64 0,.float .f64 0]) 3 24 underlying108 hi0 hz0 hz1 hz2 rfl (by decide) (.slice none 0 0) 0 [] rfl (World.ownsRow_nil _ _ _ _) ad n cap xs hx hl (λ j u hu=>(hcs j u hu).2) hone (by unfold maxLen;omega) (by omega) (Nat.zero_le _) ?_;intro v' w' h2 h3 h5;obtain ⟨u,hu,k1,k2,k3⟩:=Qv.of (t:=106) (z:=3) (n:=n) (xs:=xs) (by simpa using h2) h3 h5;simp only [Ending.returned.injEq] at hu;subst hu;exact h _ _ k1 k2 k3
theorem Tj {w:World} {o:Oper} {a:Act} {K:Value->World->Prop} (x:Tmp) (ho:o.op=.call {callee:=.builtin .append,args:=#[.const (.slice none 0 0),.tmp x],argTypes:=#[24,24]})
  (v:Value) (n:Nat) (xs:List Value) (hx:a.eval (.tmp x)=v) (hrow:U4 w 1 v n xs) (hone:∀ u∈xs,u.oneCell'=true) (hb:n<=4096)
  (h:∀ u w',w'.ownsRow 0 51 1 u n xs->(∀ g,u.ownBlock=some g->w.heap.size<=g)->Ze [] w w'->K u w'):Jy Tryz.prog K ((execOp a.eval o).run Tryz.prog w):=by
 rcases hrow.2 with ⟨hv,h0⟩|⟨ad,cap,hv,hcs⟩
 ·subst h0;have hxs:xs=[]:=List.eq_nil_of_length_eq_zero (by simpa using hrow.1);rw [hv] at hx;have e:a.tmps[x]?.getD undef=.slice none 0 0:=by simpa [Act.eval] using hx
  obtain ⟨dst,op,ty,pos,after,guard⟩:=o;simp only at ho;subst ho;have hK:=h (.slice none 0 0) w (by rw [hxs];exact World.ownsRow_nil _ _ _ _) (by simp [Value.ownBlock]) (Zr_ _ _);clear h hx;go_simp;exact hK
 ·rw [hv] at hx;have hl:xs.length=n * 1:=hrow.1;obtain ⟨i0,hi0,hz0,hz1,hz2⟩:=info_parts Ui;refine Xh (.const (.slice none 0 0)) (.tmp x) 24 ho 0 51 i0 (.float .f64 0) 1 8 underlying24 hi0 hz0 hz1 hz2 rfl (by decide) (.slice none 0 0) 0 [] rfl (World.ownsRow_nil _ _ _ _) ad n cap xs hx hl (λ j u hu=>(hcs j u hu).2) hone (by unfold maxLen;omega) (by omega) (Nat.zero_le _) ?_;intro v' w' h2 h3 h5;obtain ⟨u,hu,k1,k2,k3⟩:=Qv.of (t:=51) (z:=1) (n:=n) (xs:=xs) (by simpa using h2) h3 h5;simp only [Ending.returned.injEq] at hu;subst hu;exact h _ _ k1 k2 k3
theorem code_one (l:List Xf):∀ u∈Yk l,u.oneCell'=true:=by
 intro u hu;unfold Yk at hu;simp at hu;obtain ⟨i,_,hu⟩:=hu;rcases hu with rfl|rfl|rfl <;> rfl
end
end Go.Proofs.YtkhonmhnchdpkaaGreat
