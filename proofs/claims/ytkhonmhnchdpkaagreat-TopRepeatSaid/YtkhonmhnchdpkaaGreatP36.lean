/- A part of the proof; no condition. -/
import Derived.Test.YtkhonmhnchdpkaaGreatP35
set_option maxRecDepth 100000
set_option maxHeartbeats 40000000
namespace Go.Proofs.YtkhonmhnchdpkaaGreat
open Go.RowKit _root_.Go.Proofs.Tryz
section
attribute [local go_sem] Zj
variable {a b:Nat} {s:Zh} {w w0:World} {xs:List Nat}
theorem Ad (hM:Zi 137 w a b s) (p0 p1 p2 p3 p4 p5:Int) (v:Value) (hv:FX w0 v xs) (m0:Ze [] w0 w) (ha:w0.heap.size<=a) (hb:w0.heap.size<=b) (h1:0 < xs.length) (h2:xs.length<=256) (h3:0<=p4) (h4:p4<=4096) (h5:p4+3 * xs.length<=s.ws.length):
  Calls Tryz.prog 41 #[.pointer (some ⟨a,0,none⟩),.agg #[.int .i64 p0,.int .i64 p1,.int .i64 p2,.int .i64 p3,.int .i64 p4,.int .i64 p5],v] w λ e w'=>e=.returned (.int .i64 0)/\Zi 137 w' a b (Vg s p4 xs xs.length)/\Ze [a,b] w w':=by
 obtain ⟨fa,cap,rfl,hf⟩:=hv;obtain ⟨g,o,rfl,hg,-⟩:=hf 0 h1;have hcs:∀ i,i < xs.length->w.cell? ⟨g,o+i,none⟩=some (.float .f64 (xs.getD i 0)):=by
  intro i hi;obtain ⟨g',o',e,hg',hc⟩:=hf i hi;simp only [Option.some.injEq,Addr.mk.injEq] at e;obtain ⟨rfl,rfl,-⟩:=e;exact Zy m0 hg' (by simp) hc
 have hgl:g < w.heap.size:=Nat.lt_of_lt_of_le hg m0.size;have hga:g≠a:=by omega
 have hgb:g≠b:=by omega
 have HC:=Zh_ hcs;have hal:=hM.lta;have hbl:=hM.ltb;clear hf hcs hg m0 ha hb;go_enter func41,ntmps41;go_wp2_with fail;refine (Kg _ _ _ _ _ _ 0 0 (by omega) (by omega) h3 h4 (by omega) (by omega) _).mono ?_;rintro e w1 ⟨rfl,rfl⟩;go_wp2_with fail;refine (len_cq ((hM.alloc _).alloc _)).mono ?_;rintro e w1 ⟨rfl,rfl⟩;go_wp2_with fail;have M0:=(hM.alloc (.cells #[.int .i64 p0,.int .i64 p1,.int .i64 p2,.int .i64 p3,.int .i64 p4,.int .i64 p5] 74)).alloc (.cells #[.int .i64 p0,.int .i64 p1,.int .i64 p2,.int .i64 p3,.int .i64 p4,.int .i64 p5] 74);have D0:Ze [a,b] w ((w.alloc (.cells #[.int .i64 p0,.int .i64 p1,.int .i64 p2,.int .i64 p3,.int .i64 p4,.int .i64 p5] 74)).alloc (.cells #[.int .i64 p0,.int .i64 p1,.int .i64 p2,.int .i64 p3,.int .i64 p4,.int .i64 p5] 74)):=((Zr_ _ _).alloc _).alloc _;clear hM
 go_loopw [7,36] (λ t v wr=>∃ i:Nat,i<=xs.length/\t=.int .i64 (p4+3 * (i:Int))/\v=.int .i64 i/\Zi 137 wr a b (Vg s p4 xs i)/\Ze [a,b] w wr) (λ _ v _=>xs.length - (intOf v).toNat)
 case atStart=>exact ⟨0,by omega,by simp,rfl,M0,D0⟩
 case round=>
  clear M0 D0;obtain ⟨i,hi,rfl,rfl,M,D⟩:=hrel
  by_cases hlt:i < xs.length
  ·have cg:wr.cell? ⟨g,o+i,none⟩=some (.float .f64 (xs.getD i 0)):=Zy D hgl (by simp [hga,hgb]) (HC.out i hlt);obtain ⟨x,hx⟩:∃ x,x=xs.getD i 0:=⟨_,rfl⟩;rw [<-hx] at cg;have HX:=Zh_ hx;clear hx;go_wp2_with fail;refine (Cw M (p4+3 * (i:Int)) 0).mono ?_;rintro e w2 ⟨rfl,M2,d2⟩;go_wp2_with fail;refine (Gm x _).mono ?_;rintro e w3 ⟨rfl,hw3⟩;have hw3':=hw3.symm;subst hw3';go_wp2_with fail;refine (Cw M2 (p4+3 * (i:Int)+1) (Zt x:Int)).mono ?_;rintro e w4 ⟨rfl,M4,d4⟩;go_wp2_with fail;refine (Cw M4 (p4+3 * (i:Int)+2) 0).mono ?_;rintro e w5 ⟨rfl,M5,d5⟩;have D5:=((D.trans d2).trans d4).trans d5;have E5:Zi 137 w5 a b (Vg s p4 xs (i+1)):=by rw [Vg,<-HX.out];exact M5
   clear M M2 M4 M5 D d2 d4 d5 cg;go_wp2;go_roundw
   case rel=>exact ⟨i+1,by omega,by congr 1;omega,by go_num,E5,D5⟩
   case measure=>simp [intOf];omega
  ·obtain rfl:i=xs.length:=by omega
   go_wp2;go_ret;exact ⟨rfl,M,D⟩
theorem startx_c (hM:Zi 137 w a b s) (p0 p1 p2 p3 p4 p5:Int) (v:Value) (hv:FX w0 v xs) (m0:Ze [] w0 w) (ha:w0.heap.size<=a) (hb:w0.heap.size<=b) (h2:xs.length<=256) (h3:0<=p4) (h4:p4<=4096) (h5:p4+3 * xs.length<=s.ws.length):
  Calls Tryz.prog 41 #[.pointer (some ⟨a,0,none⟩),.agg #[.int .i64 p0,.int .i64 p1,.int .i64 p2,.int .i64 p3,.int .i64 p4,.int .i64 p5],v] w λ e w'=>e=.returned (.int .i64 0)/\Zi 137 w' a b (Q0 s p4 xs)/\Ze [a,b] w w':=by
 have e0:Cn s p4 xs=0:=by
  unfold Cn;rw [if_neg (by omega)];split
  ·rfl
  ·rw [if_neg (by omega)]
 have e1:Q0 s p4 xs=Vg s p4 xs xs.length:=by unfold Q0;rw [if_pos e0]
 rw [e1]
 by_cases h1:xs.length=0
 ·obtain ⟨fa,cap,rfl,hf⟩:=hv;rw [h1];exact Cm (xs:=[]) hM p0 p1 p2 p3 p4 p5 _ ⟨fa,cap,rfl,.inl rfl⟩ rfl
 ·exact Ad hM p0 p1 p2 p3 p4 p5 v hv m0 ha hb (by omega) h2 h3 h4 h5
end
section
variable {w w0 w':World}
theorem Z8.farT {n0:Nat} {t ty:TypeId} {z n:Nat} {xs:List Value} {v:Value} {g:Nat} {c:Array Value} (h:Z8 n0 t z n xs v w) (hg:w.heap[g]? =some (.cells c ty (0,0))) (ht:t≠ty) (m:Ze [g] w w'):Z8 n0 t z n xs v w':=
 ⟨Zs h.1 m (λ k hk hm=>by
  simp at hm;subst hm;have:=Zn hg;rw [Yc h.1 hk] at this;exact ht (Zo_ this)),h.2⟩
theorem Z8.farR {n0 z n z' k:Nat} {t ty:TypeId} {xs ys:List Value} {v u:Value} (h:Z8 n0 t z n xs v w) (ht:t≠ty) (hu:w.ownsRow 0 ty z' u k ys) (m:Ze u.ownBlock.toList w w'):Z8 n0 t z n xs v w':=by
 rcases hu.2 with ⟨e,_⟩|⟨g,cap,cur,e,_,hg,_⟩
 ·rw [e] at m;exact h.mod (by simpa [Value.ownBlock] using m)
 ·rw [e] at m;exact h.farT hg ht (by simpa [Value.ownBlock] using m)
theorem Xn {z' k n:Nat} {t ty:TypeId} {ys:List Value} {u:Value} {c:Array Value} (h:w.heap[n]? =some (.cells c t (0,0))) (ht:t≠ty) (hu:w.ownsRow 0 ty z' u k ys) (m:Ze u.ownBlock.toList w w'):w'.heap[n]? =some (.cells c t (0,0)):=by
 refine m.at h (λ hm=>?_);have:=Yc hu (Option.mem_toList.1 hm);rw [Zn h] at this;exact ht (Zo_ this)
theorem U4.far {S:List Nat} {z n:Nat} {v:Value} {xs:List Value} (h:U4 w0 z v n xs) (m:Ze S w0 w') (hS:∀ k∈S,w0.heap.size<=k):U4 w' z v n xs:=by
 refine ⟨h.1,?_⟩;rcases h.2 with e|⟨ad,cap,e,h⟩
 ·exact .inl e
 ·refine .inr ⟨ad,cap,e,λ j u hu=>?_⟩;obtain ⟨h1,h2⟩:=h j u hu;exact ⟨Nat.lt_of_lt_of_le h1 m.size,Zy m (a:=ad.add j) (by rw [Ub];exact h1) (by rw [Ub];intro hm;have:=hS _ hm;omega) h2⟩
def newF (x c q n0:Nat) (av:Option Addr) (cv nd:Nat) (dl:List Value) (tag:Int) (u:Value) (ty z n:Nat) (xs:List Value) (ety:Nat):Nat->Value->World->Prop
 |0,v,_=>v=.pointer (some ⟨x,0,none⟩)
 |1,v,_=>v=.pointer (some ⟨x,0,none⟩)
 |2,v,_=>v=.pointer (some ⟨x,0,none⟩)
 |3,v,_=>v=.pointer (some ⟨x,c,none⟩)
 |4,v,_=>v=.slice av nd cv
 |5,v,_=>v=.pointer (some ⟨q,0,none⟩)
 |6,v,_=>v=.int .i64 tag
 |7,v,_=>v=.pointer (some ⟨q,1,none⟩)
 |8,v,_=>v=u
 |9,v,w=>Z8 n0 ty z n xs v w
 |10,v,w=>∃ ca cc,v=.agg #[.int .i64 tag,.slice ca n cc]/\Z8 n0 ty z n xs (.slice ca n cc) w
 |11,v,w=>∃ B ca cc,v=.slice (some ⟨B,0,none⟩) 1 1/\w.heap[B]? =some (.cells #[.int .i64 tag,.slice ca n cc] ety (0,0))/\n0<=B/\Z8 n0 ty z n xs (.slice ca n cc) w
 |12,v,w=>∃ cu,Z8 n0 ty z n xs cu w/\w.ownsRow 0 ety 2 v (nd+1) (dl++[.int .i64 tag,cu])/\∀ g,v.ownBlock=some g->(Value.slice av nd cv).ownBlock=some g\/n0<=g
 |13,v,_=>v=.pointer (some ⟨x,0,none⟩)
 |14,v,_=>v=.pointer (some ⟨x,c,none⟩)
 |_,_,_=>True
theorem Rw (x c q n0:Nat) (av:Option Addr) (cv nd:Nat) (dl:List Value) (tag:Int) (u:Value) (ty z n:Nat) (xs:List Value) (ety:Nat) (hg:∀ k∈(Value.slice av nd cv).ownBlock.toList,k < n0) (i j:Nat) (v:Value) (w w':World) (hij:i≠j) (h:newF x c q n0 av cv nd dl tag u ty z n xs ety i v w) (m:Fa (Value.slice av nd cv).ownBlock.toList 12 j w w'):newF x c q n0 av cv nd dl tag u ty z n xs ety i v w':=by
 match i,hij,h with
 |0,_,h=>exact h
 |1,_,h=>exact h
 |2,_,h=>exact h
 |3,_,h=>exact h
 |4,_,h=>exact h
 |5,_,h=>exact h
 |6,_,h=>exact h
 |7,_,h=>exact h
 |8,_,h=>exact h
 |9,_,h=>exact Z8.keep h (Vr m) hg
 |10,_,⟨ca,cc,h1,h2⟩=>exact ⟨ca,cc,h1,h2.keep (Vr m) hg⟩
 |11,_,⟨B,ca,cc,h1,h2,h3,h4⟩=>exact ⟨B,ca,cc,h1,(Vr m).at h2 (λ hm=>by have:=hg B hm;omega),h3,h4.keep (Vr m) hg⟩
 |12,hij,⟨cu,h1,h2,h3⟩=>exact ⟨cu,h1.keep (Vr m) hg,Ye h2 (Vs (Ne.symm hij) m),h3⟩
 |13,_,h=>exact h
 |14,_,h=>exact h
 |i+15,_,h=>trivial
theorem My (x c q n0:Nat) (av:Option Addr) (cv nd:Nat) (dl:List Value) (tag:Int) (u:Value) (ty z n:Nat) (xs:List Value) (ety:Nat) (i:Nat) (h:15<=i) (v:Value) (w:World):newF x c q n0 av cv nd dl tag u ty z n xs ety i v w:=by
 match i,h with
 |j+15,_=>trivial
theorem info110:(Tryz.prog.info? 110).map (λ i=>(i.zero,i.size,i.bytes))=some (some (.agg #[.int .i64 0,.slice none 0 0]),2,32):=by kernel_rfl
theorem info63:(Tryz.prog.info? 63).map (λ i=>(i.zero,i.size,i.bytes))=some (some (.agg #[.int .i64 0,.slice none 0 0]),2,32):=by kernel_rfl
theorem info83:(Tryz.prog.info? 83).map (λ i=>(i.zero,i.size,i.bytes))=some (some (.pointer none),1,8):=by kernel_rfl
theorem Du {B:Nat} {ty:TypeId} {x y:Value} (h:w.heap[B]? =some (.cells #[x,y] ty (0,0))):∀ (j:Nat) (u:Value),[x,y][j]? =some u->w.cell? ((⟨B,0,none⟩:Addr).add j)=some u:=by
 intro j u hj
 match j,hj with
 |0,hj=>simp at hj;subst hj;exact Za (i:=0) h rfl
 |1,hj=>simp at hj;subst hj;exact Za (i:=1) h rfl
def Vc (n0:Nat) (l:List (Int×List Xf)) (k:Nat) (v:Value) (w:World):Prop:=
 ∃ us:List Value,us.length=k/\Z8 n0 110 2 k (Bb (l.take k) us) v w/\∀ j,j < k->Z8 n0 106 3 (l.getD j (0,[])).2.length (Yk (l.getD j (0,[])).2) (us.getD j undef) w
def Qr (n0:Nat) (l:List (Int×List Nat)) (k:Nat) (v:Value) (w:World):Prop:=
 ∃ us:List Value,us.length=k/\Z8 n0 63 2 k (Bq (l.take k) us) v w/\∀ j,j < k->Z8 n0 51 1 (l.getD j (0,[])).2.length ((l.getD j (0,[])).2.map (Value.float .f64)) (us.getD j undef) w
theorem Vc.mod {n0 k:Nat} {l:List (Int×List Xf)} {v:Value} (h:Vc n0 l k v w) (m:Ze [] w w'):Vc n0 l k v w':=by
 obtain ⟨us,h1,h2,h3⟩:=h;exact ⟨us,h1,h2.mod m,λ j hj=>(h3 j hj).mod m⟩
theorem Qr.mod {n0 k:Nat} {l:List (Int×List Nat)} {v:Value} (h:Qr n0 l k v w) (m:Ze [] w w'):Qr n0 l k v w':=by
 obtain ⟨us,h1,h2,h3⟩:=h;exact ⟨us,h1,h2.mod m,λ j hj=>(h3 j hj).mod m⟩
theorem Vc.farT {n0 k g:Nat} {l:List (Int×List Xf)} {v:Value} {c:Array Value} {ty:TypeId} (h:Vc n0 l k v w) (hg:w.heap[g]? =some (.cells c ty (0,0))) (h1:110≠ty) (h2:106≠ty) (m:Ze [g] w w'):Vc n0 l k v w':=by
 obtain ⟨us,k1,k2,k3⟩:=h;exact ⟨us,k1,k2.farT hg h1 m,λ j hj=>(k3 j hj).farT hg h2 m⟩
theorem Qr.farT {n0 k g:Nat} {l:List (Int×List Nat)} {v:Value} {c:Array Value} {ty:TypeId} (h:Qr n0 l k v w) (hg:w.heap[g]? =some (.cells c ty (0,0))) (h1:63≠ty) (h2:51≠ty) (m:Ze [g] w w'):Qr n0 l k v w':=by
 obtain ⟨us,k1,k2,k3⟩:=h;exact ⟨us,k1,k2.farT hg h1 m,λ j hj=>(k3 j hj).farT hg h2 m⟩
theorem Vc.farR {n0 k z' k':Nat} {l:List (Int×List Xf)} {v u:Value} {ys:List Value} {ty:TypeId} (h:Vc n0 l k v w) (h1:110≠ty) (h2:106≠ty) (hu:w.ownsRow 0 ty z' u k' ys) (m:Ze u.ownBlock.toList w w'):Vc n0 l k v w':=by
 obtain ⟨us,k1,k2,k3⟩:=h;exact ⟨us,k1,k2.farR h1 hu m,λ j hj=>(k3 j hj).farR h2 hu m⟩
theorem Qr.farR {n0 k z' k':Nat} {l:List (Int×List Nat)} {v u:Value} {ys:List Value} {ty:TypeId} (h:Qr n0 l k v w) (h1:63≠ty) (h2:51≠ty) (hu:w.ownsRow 0 ty z' u k' ys) (m:Ze u.ownBlock.toList w w'):Qr n0 l k v w':=by
 obtain ⟨us,k1,k2,k3⟩:=h;exact ⟨us,k1,k2.farR h1 hu m,λ j hj=>(k3 j hj).farR h2 hu m⟩
theorem Qr.weak {n0 n1 k:Nat} {l:List (Int×List Nat)} {v:Value} (h:Qr n1 l k v w) (hn:n0<=n1):Qr n0 l k v w:=by
 obtain ⟨us,k1,k2,k3⟩:=h;exact ⟨us,k1,k2.weak hn,λ j hj=>(k3 j hj).weak hn⟩
theorem Cv (l:List (Int×List Xf)) (us:List Value) (p:Int×List Xf) (u:Value) (h:l.length=us.length):Bb (l++[p]) (us++[u])=Bb l us++[.int .i64 p.1,u]:=by
 unfold Bb;rw [List.zipWith_append h];simp
theorem Ly (l:List (Int×List Nat)) (us:List Value) (p:Int×List Nat) (u:Value) (h:l.length=us.length):Bq (l++[p]) (us++[u])=Bq l us++[.int .i64 p.1,u]:=by
 unfold Bq;rw [List.zipWith_append h];simp
theorem Dp {α:Type} (l:List α) (k:Nat) (d:α) (hk:k < l.length):l.take (k+1)=l.take k++[l.getD k d]:=by
 rw [List.take_succ_eq_append_getElem hk,List.getD_eq_getElem?_getD,List.getElem?_eq_getElem hk];rfl
theorem Kk {us:List Value} {u:Value} {j:Nat}:(us++[u]).getD j undef=if j=us.length then u else us.getD j undef:=by
 split
 ·rename_i h;subst h;simp
 ·rename_i h;rcases Nat.lt_or_ge j us.length with h'|h'
  ·simp [List.getElem?_append_left h']
  ·rw [List.getD_eq_getElem?_getD,List.getD_eq_getElem?_getD,List.getElem?_eq_none (by simp;omega),List.getElem?_eq_none (by omega)]
theorem Vc.push {n0 k:Nat} {l:List (Int×List Xf)} {v':Value} {us:List Value} {cu:Value} (hl:k < l.length) (hus:us.length=k) (hr:Z8 n0 110 2 (k+1) (Bb (l.take k) us++[.int .i64 (l.getD k (0,[])).1,cu]) v' w')
  (h3:∀ j,j < k->Z8 n0 106 3 (l.getD j (0,[])).2.length (Yk (l.getD j (0,[])).2) (us.getD j undef) w') (hc:Z8 n0 106 3 (l.getD k (0,[])).2.length (Yk (l.getD k (0,[])).2) cu w'):Vc n0 l (k+1) v' w':=by
 refine ⟨us++[cu],by simp [hus],?_,λ j hj=>?_⟩
 ·rw [Dp l k (0,[]) hl,Cv _ _ _ _ (by simp [hus];omega)];exact hr
 ·rw [Kk];split
  ·rename_i e;rw [e,hus];exact hc
  ·exact h3 j (by omega)
theorem Qr.push {n0 k:Nat} {l:List (Int×List Nat)} {v':Value} {us:List Value} {cu:Value} (hl:k < l.length) (hus:us.length=k) (hr:Z8 n0 63 2 (k+1) (Bq (l.take k) us++[.int .i64 (l.getD k (0,[])).1,cu]) v' w')
  (h3:∀ j,j < k->Z8 n0 51 1 (l.getD j (0,[])).2.length ((l.getD j (0,[])).2.map (Value.float .f64)) (us.getD j undef) w') (hc:Z8 n0 51 1 (l.getD k (0,[])).2.length ((l.getD k (0,[])).2.map (Value.float .f64)) cu w'):Qr n0 l (k+1) v' w':=by
 refine ⟨us++[cu],by simp [hus],?_,λ j hj=>?_⟩
 ·rw [Dp l k (0,[]) hl,Ly _ _ _ _ (by simp [hus];omega)];exact hr
 ·rw [Kk];split
  ·rename_i e;rw [e,hus];exact hc
  ·exact h3 j (by omega)
end
section
variable {w w0 w':World}
def Yy (c0 c1 c2 c3:Int) (vp:Value) (p0 p1 p2 p3 p4 p5:Int) (va vr vt:Value):Array Value:=#[.int .i64 c0,.int .i64 c1,.int .i64 c2,.int .i64 c3,vp,.int .i64 p0,.int .i64 p1,.int .i64 p2,.int .i64 p3,.int .i64 p4,.int .i64 p5,va,vr,vt,.slice none 0 0,.int .i64 0]
structure Kt (n0:Nat) (c0 c1 c2 c3:Int) (ms:Zh) (progs:List (Int×List Xf)) (cs:List (List (Int×List Nat))) (x a b r z:Nat) (vp vt:Value) (kts:List Nat) (vcs:List Value) (w:World):Prop where
 hx:w.heap[x]? =some (.cells (Yy c0 c1 c2 c3 vp 0 1 2 3 (3+c1) (3+c1+3 * c0) (Xs a) (Xs r) vt) 79 (0,0))
 mem:Zi 137 w a b ms
 rnd:Xx w r c1
 prog:Vc n0 progs progs.length vp w
 lk:kts.length=z
 lv:vcs.length=z
 trow:Z8 n0 83 1 z (kts.map Xs) vt w
 thd:∀ t,t < z->w.heap[kts.getD t 0]? =some (.cells (Qg (vcs.getD t undef) 0 .nilIface 0) 87 (0,0))/\n0<=kts.getD t 0
 nd:kts.Nodup
 call:∀ t,t < z->Qr n0 (cs.getD t []) (cs.getD t []).length (vcs.getD t undef) w
 nx:n0<=x
 na:n0<=a
 nb:n0<=b
 nr:n0<=r
variable {n0 x a b r z:Nat} {c0 c1 c2 c3:Int} {ms:Zh} {progs:List (Int×List Xf)} {cs:List (List (Int×List Nat))} {vp vt vt':Value} {kts:List Nat} {vcs:List Value}
theorem Kt.mod (h:Kt n0 c0 c1 c2 c3 ms progs cs x a b r z vp vt kts vcs w) (m:Ze [] w w'):Kt n0 c0 c1 c2 c3 ms progs cs x a b r z vp vt kts vcs w':=
 ⟨m.at h.hx (by simp),h.mem.mod m (by simp) (by simp),h.rnd.mod m (by simp),h.prog.mod m,h.lk,h.lv,h.trow.mod m,λ t ht=>⟨m.at (h.thd t ht).1 (by simp),(h.thd t ht).2⟩,h.nd,λ t ht=>(h.call t ht).mod m,h.nx,h.na,h.nb,h.nr⟩
theorem Kt.round (h:Kt n0 c0 c1 c2 c3 ms progs cs x a b r z vp vt kts vcs w) (hr:Xx w' r c1) (m:Ze [r] w w'):Kt n0 c0 c1 c2 c3 ms progs cs x a b r z vp vt kts vcs w':=by
 obtain ⟨f,o,hg⟩:=h.rnd;exact ⟨m.at h.hx (by simpa using Zp h.hx hg (by decide)),h.mem.mod m (by simpa using Zp h.mem.hd hg (by decide)) (by simpa using Zp h.mem.ws hg (by decide)),hr,h.prog.farT hg (by decide) (by decide) m,h.lk,h.lv,h.trow.farT hg (by decide) m,
  λ t ht=>⟨m.at (h.thd t ht).1 (by simpa using Zp (h.thd t ht).1 hg (by decide)),(h.thd t ht).2⟩,h.nd,λ t ht=>(h.call t ht).farT hg (by decide) (by decide) m,h.nx,h.na,h.nb,h.nr⟩
theorem Lu {us:List Nat} {u d j:Nat}:(us++[u]).getD j d=if j=us.length then u else us.getD j d:=by
 split
 ·rename_i h;subst h;simp
 ·rename_i h;rcases Nat.lt_or_ge j us.length with h'|h'
  ·simp [List.getElem?_append_left h']
  ·rw [List.getD_eq_getElem?_getD,List.getD_eq_getElem?_getD,List.getElem?_eq_none (by simp;omega),List.getElem?_eq_none (by omega)]
theorem Kt.push {wa wb:World} {k:Nat} {v:Value} (h:Kt n0 c0 c1 c2 c3 ms progs cs x a b r z vp vt kts vcs w) (m:Ze [] w wa) (hk:wa.heap[k]? =some (.cells (Qg v 0 .nilIface 0) 87 (0,0))) (hkn:w.heap.size<=k) (h0:n0<=w.heap.size) (hv:Qr n0 (cs.getD z []) (cs.getD z []).length v wa)
  (mb:Ze vt.ownBlock.toList wa wb) (ho:wb.ownsRow 0 83 1 vt' (z+1) (kts.map Xs++[Xs k])) (hat:∀ g,vt'.ownBlock=some g->vt.ownBlock=some g\/wa.heap.size<=g):
  Kt n0 c0 c1 c2 c3 ms progs cs x a b r (z+1) vp vt' (kts++[k]) (vcs++[v]) (wb.setCell ⟨x,13,none⟩ vt'):=by
 have ha:=h.mod m;have hr:=ha.trow.1;have hX:=Xn ha.hx (by decide) hr mb;have mc:Ze [x] wb (wb.setCell ⟨x,13,none⟩ vt'):=(Zr_ _ _).setCell _ _ (.inl (by simp));have hX':=Zd (i:=13) vt' hX;have F:∀ {n:Nat} {c:Array Value} {t:TypeId},wa.heap[n]? =some (.cells c t (0,0))->t≠83->t≠79->(wb.setCell ⟨x,13,none⟩ vt').heap[n]? =some (.cells c t (0,0)):=by
  intro n c t hn h1 h2;have:=Xn hn h1 hr mb;exact mc.at this (by simpa using Zp this hX h2)
 obtain ⟨f,o,hrn⟩:=ha.rnd;refine ⟨hX',⟨F ha.mem.hd (by decide) (by decide),F ha.mem.ws (by decide) (by decide),ha.mem.ne,ha.mem.len⟩,⟨f,o,F hrn (by decide) (by decide)⟩,?_,by simp [h.lk],by simp [h.lv],?_,λ t ht=>?_,?_,λ t ht=>?_,h.nx,h.na,h.nb,h.nr⟩
 ·exact (ha.prog.farR (by decide) (by decide) hr mb).farT hX (by decide) (by decide) mc
 ·refine Z8.farT ⟨?_,λ g hg=>?_⟩ hX (by decide) mc
  ·rw [List.map_append];exact ho
  ·rcases hat g hg with e|e
   ·exact h.trow.2 g e
   ·have:=m.size;omega
 ·rw [Lu,Kk,h.lk,h.lv]
  by_cases e:t=z
  ·rw [if_pos e,if_pos e];exact ⟨F hk (by decide) (by decide),by omega⟩
  ·rw [if_neg e,if_neg e];exact ⟨F (ha.thd t (by omega)).1 (by decide) (by decide),(ha.thd t (by omega)).2⟩
 ·rw [List.nodup_append];refine ⟨h.nd,by simp,?_⟩;intro y hy z' hz' e;simp at hz';subst hz';subst e;obtain ⟨t,ht,rfl⟩:=List.mem_iff_getElem.1 hy;have:=(h.thd t (by rw [<-h.lk];exact ht)).1;rw [List.getD_eq_getElem?_getD,List.getElem?_eq_getElem ht] at this;have:=lt_of_block this;simp at this;omega
 ·rw [Kk,h.lv]
  by_cases e:t=z
  ·rw [if_pos e,e];exact (hv.farR (by decide) (by decide) hr mb).farT hX (by decide) (by decide) mc
  ·rw [if_neg e];exact ((ha.call t (by omega)).farR (by decide) (by decide) hr mb).farT hX (by decide) (by decide) mc
def Gh (n0:Nat) (w:World) (kts:List Nat) (n:Nat):Nat:=
 if n < n0 then 0 else if Xw w n=some 79 then 1 else if Xw w n=some 137\/Xw w n=some 54 then 2 else if Xw w n=some 123 then 3 else if Xw w n=some 83 then 4 else if Xw w n=some 87 then 10+kts.idxOf n else 6
theorem Vi {n:Nat} {t:TypeId} (hn:n0<=n) (ht:Xw w n=some t):Gh n0 w kts n=if t=79 then 1 else if t=137\/t=54 then 2 else if t=123 then 3 else if t=83 then 4 else if t=87 then 10+kts.idxOf n else 6:=by
 unfold Gh;rw [if_neg (by omega),ht];simp only [Option.some.injEq]
theorem Z8.lab6 {t:TypeId} {z n:Nat} {xs:List Value} {v:Value} (h:Z8 n0 t z n xs v w) (h1:t≠79/\t≠137/\t≠54/\t≠123/\t≠83/\t≠87):Vw w (Gh n0 w kts) 6 t z xs n v:=
 ⟨h.1,λ g hg=>by
  rw [Vi (h.2 g hg) (Yc h.1 hg),if_neg h1.1,if_neg (by rintro (e|e);exact h1.2.1 e;exact h1.2.2.1 e),if_neg h1.2.2.2.1,if_neg h1.2.2.2.2.1,if_neg h1.2.2.2.2.2]⟩
theorem Vc.all {v:Value} (h:Vc n0 progs progs.length v w):Ko w (Gh n0 w kts) 6 v progs:=by
 obtain ⟨us,h1,h2,h3⟩:=h;rw [List.take_length] at h2;exact ⟨us,h1,h2.lab6 (by decide),λ k hk=>(h3 k hk).lab6 (by decide)⟩
theorem Qr.all {l:List (Int×List Nat)} {v:Value} (h:Qr n0 l l.length v w):Kr w (Gh n0 w kts) 6 v l:=by
 obtain ⟨us,h1,h2,h3⟩:=h;rw [List.take_length] at h2;exact ⟨us,h1,h2.lab6 (by decide),λ k hk=>(h3 k hk).lab6 (by decide)⟩
variable {start:List Nat} {t:Nat}
theorem Qd:(U1 c0 c1 c2 c3 start progs cs).ths.length=c1.toNat:=by simp [U1]
theorem Jl (ht:t < c1.toNat):(U1 c0 c1 c2 c3 start progs cs).th t=⟨cs.getD t [],0,none⟩:=by
 unfold Zq.th U1;simp [ht]
theorem Kt.eng (hc:Yq c0 c1 c2 c3) (h:Kt w0.heap.size c0 c1 c2 c3 (Q0 (.fresh (Zw c0 c1).toNat) (Z4 c1) start) progs cs x a b r c1.toNat vp vt kts vcs w) (m:Ze [] w0 w):
  ∃ lab P,P.x=x/\Yu w0 w lab P (U1 c0 c1 c2 c3 start progs cs):=by
 obtain ⟨f,o,hr⟩:=h.rnd;obtain ⟨e1,e2,e3,e4,_⟩:=hc;refine ⟨Gh w0.heap.size w kts,⟨x,a,b,r,vp,vt,.slice none 0 0,λ t=>kts.getD t 0,λ t=>vcs.getD t undef,λ _=>.nilIface,λ _=>0,[]⟩,rfl,?_⟩;have hkt:∀ t,t < c1.toNat->Gh w0.heap.size w kts (kts.getD t 0)=10+t:=by
  intro t ht;have h1:=h.thd t ht;rw [Vi h1.2 (Zn h1.1),if_neg (by decide),if_neg (by decide),if_neg (by decide),if_neg (by decide),if_pos rfl];have hl:t < kts.length:=by rw [h.lk];exact ht
  rw [List.getD_eq_getElem?_getD,List.getElem?_eq_getElem hl];simp only [Option.getD_some];rw [List.Nodup.idxOf_getElem h.nd]
 refine {hx:=h.hx,mem:=h.mem,rnd:=h.rnd,prog:=h.prog.all,trow:=?_,thd:=λ t ht=>?_,lt:=λ t ht=>?_,call:=λ t ht=>?_,cur:=λ t i ht hi=>?_,go:=λ t ht=>?_,deeds:=⟨rfl,Vw.nil _ _,λ k hk=>absurd hk (Nat.not_lt_zero k)⟩,n1:=?_,n8:=?_,nt:=?_,lx:=?_,la:=?_,lb:=?_,lr:=?_,old:=λ n hn=>if_pos hn,fr:=m}
 ·rw [Qd];have e:(List.range c1.toNat).map (λ t=>Xs (kts.getD t 0))=kts.map Xs:=by
   apply List.ext_getElem
   ·simp [h.lk]
   ·intro i h1 h2;have hi:i < kts.length:=by simpa using h2
    simp [hi]
  show Vw w _ 4 83 1 ((List.range c1.toNat).map (λ t=>Xs (kts.getD t 0))) c1.toNat vt;rw [e];exact ⟨h.trow.1,λ g hg=>by
   rw [Vi (h.trow.2 g hg) (Yc h.trow.1 hg)];rfl⟩
 ·rw [Qd] at ht;rw [Jl ht];exact (h.thd t ht).1
 ·rw [Qd] at ht;exact hkt t ht
 ·rw [Qd] at ht;rw [Jl ht];exact (h.call t ht).all
 ·rw [Qd] at ht;rw [Jl ht] at hi;cases hi
 ·rw [Qd] at ht;have e:Zq.goer (U1 c0 c1 c2 c3 start progs cs) t=none:=by
   unfold Zq.goer;rw [Jl ht]
  rw [e];rfl
 ·rw [Qd];omega
 ·rw [Qd];omega
 ·rw [Qd];show c1=_;omega
 ·rw [Vi h.nx (Zn h.hx)];rfl
 ·rw [Vi h.na (Zn h.mem.hd)];rfl
 ·rw [Vi h.nb (Zn h.mem.ws)];rfl
 ·rw [Vi h.nr (Zn hr)];rfl
theorem newE_ok (h:P3 c0 c1 c2 c3 start.length progs.length cs) (hl:∀ p∈progs,p.2.length<=5864062014635):Ym (U1 c0 c1 c2 c3 start progs cs):=by
 obtain ⟨e1,e2,e3,e4,_⟩:=id h.cf;have hin:∀ t,t < c1.toNat->(cs.getD t []).length<=64:=by
  intro t ht
  by_cases hc:t < cs.length
  ·exact h.l t hc
  ·rw [List.getD_eq_getElem?_getD,List.getElem?_eq_none (by omega)];simp
 refine ⟨h.cf,by rw [Qd];show c1=_;omega,?_,λ t ht=>?_,λ t c ht hcm=>?_,hl,λ t i ht hi=>?_,λ i raw g hi=>?_,Nat.le_refl _⟩
 ·show ((Q0 (.fresh (Zw c0 c1).toNat) (Z4 c1) start).ws.length:Int)=Zw c0 c1;have:(Q0 (.fresh (Zw c0 c1).toNat) (Z4 c1) start).ws.length=(Zw c0 c1).toNat:=by
   unfold Q0;split
   ·rw [Pa];simp [Zh.fresh]
   ·simp [Zh.fresh]
  rw [this];unfold Zw;omega
 ·rw [Qd] at ht;rw [Jl ht];exact ⟨Nat.zero_le _,hin t ht⟩
 ·rw [Qd] at ht;rw [Jl ht] at hcm;have hcm:c∈cs.getD t []:=hcm
  by_cases hc:t < cs.length
  ·obtain ⟨j,hj,rfl⟩:=List.mem_iff_getElem.1 hcm;have:=h.c t j hc hj;rw [List.getD_eq_getElem?_getD (l:=cs.getD t []),List.getElem?_eq_getElem hj] at this;exact this
  ·rw [List.getD_eq_getElem?_getD,List.getElem?_eq_none (by omega)] at hcm;cases hcm
 ·rw [Qd] at ht;rw [Jl ht] at hi;cases hi
 ·cases hi
theorem Dr (s:Zh) (p4:Int) (h4:3<=p4) (xs:List Nat) (j:Nat) (hj:j < 3):∀ k,(Vg s p4 xs k).wd j=s.wd j
 |0=>rfl
 |k+1=>by
  have P:∀ (s:Zh) (i v:Int),3<=i->(s.poke i v).wd j=s.wd j:=by
   intro s i v hi;unfold Zh.poke;split
   ·rw [Zh.put_wd,if_neg (by omega)]
   ·rfl
  rw [Vg,P _ _ _ (by omega),P _ _ _ (by omega),P _ _ _ (by omega),Dr s p4 h4 xs j hj k]
theorem Hk (hc:Yq c0 c1 c2 c3) (j:Nat) (hj:j < 3):(U1 c0 c1 c2 c3 start progs cs).mem.wd j=0:=by
 show (Q0 (.fresh (Zw c0 c1).toNat) (Z4 c1) start).wd j=0;have e:(Zh.fresh (Zw c0 c1).toNat).wd j=0:=by
  unfold Zh.wd Zh.fresh;rw [List.getD_eq_getElem?_getD,List.getElem?_replicate];split <;> rfl
 unfold Q0;split
 ·rw [Dr _ _ (by obtain ⟨_,_,h,_⟩:=hc;unfold Z4;omega) _ j hj,e]
 ·exact e
theorem Wg (hc:Yq c0 c1 c2 c3):Qj (U1 c0 c1 c2 c3 start progs cs):=by
 refine ⟨?_,λ i raw y hi=>?_,by show (0:Nat) < 1000000000;omega⟩
 ·rw [Hk hc 0 (by omega),Hk hc 1 (by omega),Hk hc 2 (by omega)];exact Xt.init
 ·cases hi
theorem newE_Len:(U1 c0 c1 c2 c3 start progs cs).Len:=λ x hx=>by cases hx
end
end Go.Proofs.YtkhonmhnchdpkaaGreat
