/- A part of the proof; no condition. -/
import Derived.Test.YtkhonmhnchdpkaaGreatB31
set_option maxRecDepth 100000
set_option maxHeartbeats 40000000
namespace Go.Proofs.YtkhonmhnchdpkaaGreat
open Go.RowKit _root_.Go.Proofs.Tryz
open Go renaming World→W
open Value renaming int→U,pointer→E,slice→L,float→Z,agg→A_
open IntKind renaming i64→Y
open FloatKind renaming f64→V
open Obj renaming cells→X
open Option renaming some→I,none→O
open Ending renaming returned→R_
open _root_.Go.Proofs.Tryz renaming prog→N
open List renaming getD_eq_getElem?_getD→G9
section
attribute [local go_sem] Zi
variable {w w':W}
theorem Wn {v v':Value} {n9 sz:Nat} (hat:v'.ownBlock=v.ownBlock\/v'.ownBlock=I sz) (h:n9<=sz):∀ g,v'.ownBlock=I g->v.ownBlock=I g\/n9<=g:=by
 intro g hv;rcases hat with e|e
 ·exact .inl (e.symm.trans hv)
 ·rw [e] at hv;simp at hv;exact .inr (by omega)
def Dp (n9 b0 sb z t:Nat) (av:Option Addr) (cv nd:Nat) (dl:List Value):Nat->Value->W->Prop
 |0,v,_=>v=E (I ⟨sb,6,O⟩)
 |1,v,_=>v=L (I ⟨z,0,O⟩) 4 4
 |2,v,_=>v=U Y (t:Int)
 |3,v,_=>v=E (I ⟨sb,6,O⟩)
 |4,v,_=>v=L (I ⟨z,0,O⟩) 4 4
 |5,v,_=>v=U Y (t:Int)
 |6,v,_=>v=E (I ⟨z,t,O⟩)
 |7,v,_=>v=L av nd cv
 |8,v,_=>v=A_ #[U Y 1,L O 0 0]
 |9,v,w=>∃ C,v=L (I ⟨C,0,O⟩) 1 1/\w.heap[C]? =I (.cells ([U Y 1,L O 0 0]:List Value).toArray 63 (0,0))/\n9<=C
 |10,v,w=>w.ownsRow b0 63 2 v (nd+1) (dl++[U Y 1,L O 0 0])/\∀ g,v.ownBlock=I g->(L av nd cv).ownBlock=I g\/n9<=g
 |11,v,_=>v=E (I ⟨z,t,O⟩)
 |_,_,_=>True
theorem Am (n9 b0 sb z t:Nat) (av:Option Addr) (cv nd:Nat) (dl:List Value) (hg:∀ k∈(L av nd cv).ownBlock.toList,k < n9) (i j:Nat) (v:Value) (w w':W) (hij:i≠j) (h:Dp n9 b0 sb z t av cv nd dl i v w) (m:Kf (L av nd cv).ownBlock.toList 10 j w w'):Dp n9 b0 sb z t av cv nd dl i v w':=by
 match i,hij,h with
 |0,_,h=>exact h
 |1,_,h=>exact h
 |2,_,h=>exact h
 |3,_,h=>exact h
 |4,_,h=>exact h
 |5,_,h=>exact h
 |6,_,h=>exact h
 |7,_,h=>exact h
 |8,_,h=>exact h
 |9,hij,⟨C,h1,h2,h3⟩=>exact ⟨C,h1,(Xn m).at h2 (λ hm=>by have:=hg _ hm;omega),h3⟩
 |10,hij,⟨h1,h2⟩=>exact ⟨Xk h1 (Xr (by omega) m) (by simp),h2⟩
 |11,_,h=>exact h
 |i+12,_,h=>trivial
theorem Rd (n9 b0 sb z t:Nat) (av:Option Addr) (cv nd:Nat) (dl:List Value) (i:Nat) (h:12<=i) (v:Value) (w:W):Dp n9 b0 sb z t av cv nd dl i v w:=by
 match i,h with
 |j+12,_=>trivial
def Dn (n9 b0 sb z t:Nat) (av:Option Addr) (cv nd:Nat) (dl:List Value) (p1 p2 p3:Nat):Nat->Value->W->Prop
 |0,v,_=>v=E (I ⟨sb,6,O⟩)
 |1,v,_=>v=L (I ⟨z,0,O⟩) 4 4
 |2,v,_=>v=U Y (t:Int)
 |3,v,_=>v=E (I ⟨sb,6,O⟩)
 |4,v,_=>v=L (I ⟨z,0,O⟩) 4 4
 |5,v,_=>v=U Y (t:Int)
 |6,v,_=>v=E (I ⟨z,t,O⟩)
 |7,v,_=>v=L av nd cv
 |8,v,_=>v=U Y (p1:Int)
 |9,v,_=>v=Z V (fl p1)
 |10,v,_=>v=U Y (p2:Int)
 |11,v,_=>v=Z V (fl p2)
 |12,v,_=>v=U Y (p3:Int)
 |13,v,_=>v=Z V (fl p3)
 |14,v,w=>∃ B,v=L (I ⟨B,0,O⟩) 3 3/\w.heap[B]? =I (.cells ([Z V (fl p1),Z V (fl p2),Z V (fl p3)]:List Value).toArray 51 (0,0))/\n9<=B
 |15,v,w=>∃ B,v=A_ #[U Y 0,L (I ⟨B,0,O⟩) 3 3]/\w.heap[B]? =I (.cells ([Z V (fl p1),Z V (fl p2),Z V (fl p3)]:List Value).toArray 51 (0,0))/\n9<=B
 |16,v,w=>∃ C B,v=L (I ⟨C,0,O⟩) 1 1/\w.heap[C]? =I (.cells ([U Y 0,L (I ⟨B,0,O⟩) 3 3]:List Value).toArray 63 (0,0))/\n9<=C/\w.heap[B]? =I (.cells ([Z V (fl p1),Z V (fl p2),Z V (fl p3)]:List Value).toArray 51 (0,0))/\n9<=B
 |17,v,w=>∃ B,(w.ownsRow b0 63 2 v (nd+1) (dl++[U Y 0,L (I ⟨B,0,O⟩) 3 3])/\∀ g,v.ownBlock=I g->(L av nd cv).ownBlock=I g\/n9<=g)/\w.heap[B]? =I (.cells ([Z V (fl p1),Z V (fl p2),Z V (fl p3)]:List Value).toArray 51 (0,0))/\n9<=B
 |18,v,_=>v=E (I ⟨z,t,O⟩)
 |_,_,_=>True
theorem Al (n9 b0 sb z t:Nat) (av:Option Addr) (cv nd:Nat) (dl:List Value) (p1 p2 p3:Nat) (hg:∀ k∈(L av nd cv).ownBlock.toList,k < n9) (i j:Nat) (v:Value) (w w':W) (hij:i≠j) (h:Dn n9 b0 sb z t av cv nd dl p1 p2 p3 i v w) (m:Kf (L av nd cv).ownBlock.toList 17 j w w'):Dn n9 b0 sb z t av cv nd dl p1 p2 p3 i v w':=by
 match i,hij,h with
 |0,_,h=>exact h
 |1,_,h=>exact h
 |2,_,h=>exact h
 |3,_,h=>exact h
 |4,_,h=>exact h
 |5,_,h=>exact h
 |6,_,h=>exact h
 |7,_,h=>exact h
 |8,_,h=>exact h
 |9,_,h=>exact h
 |10,_,h=>exact h
 |11,_,h=>exact h
 |12,_,h=>exact h
 |13,_,h=>exact h
 |14,hij,⟨B,h1,h2,h3⟩=>exact ⟨B,h1,(Xn m).at h2 (λ hm=>by have:=hg _ hm;omega),h3⟩
 |15,hij,⟨B,h1,h2,h3⟩=>exact ⟨B,h1,(Xn m).at h2 (λ hm=>by have:=hg _ hm;omega),h3⟩
 |16,hij,⟨C,B,h1,h2,h3,h4,h5⟩=>exact ⟨C,B,h1,(Xn m).at h2 (λ hm=>by have:=hg _ hm;omega),h3,(Xn m).at h4 (λ hm=>by have:=hg _ hm;omega),h5⟩
 |17,hij,⟨B,⟨h1,h2⟩,h3,h4⟩=>exact ⟨B,⟨Xk h1 (Xr (by omega) m) (by simp),h2⟩,(Xr (by omega) m).at h3 (by simp),h4⟩
 |18,_,h=>exact h
 |i+19,_,h=>trivial
theorem Rc (n9 b0 sb z t:Nat) (av:Option Addr) (cv nd:Nat) (dl:List Value) (p1 p2 p3:Nat) (i:Nat) (h:19<=i) (v:Value) (w:W):Dn n9 b0 sb z t av cv nd dl p1 p2 p3 i v w:=by
 match i,h with
 |j+19,_=>trivial
theorem Jp.gb {n0:Nat} {ds:List Zu} {es:List DX} {av:Option Addr} {cap k:Nat} (h:Jp w n0 ds es (L av ds.length cap)) (hk:k < ds.length):
  (∃ g,av=I ⟨g,0,O⟩/\g < w.heap.size/\∀ (j:Nat) (v:Value),(Z9 (W8 ds k) (es.getD k Qm))[j]? =I v->w.cell? ((⟨g,k * 19,O⟩:Addr).add j)=I v)/\∀ u∈Z9 (W8 ds k) (es.getD k Qm),u.oneCell'=true:=by
 obtain ⟨g,c,e,hg⟩:=h.form (by omega);simp only [Value.slice.injEq,true_and] at e;obtain ⟨rfl,rfl⟩:=e;refine ⟨⟨g,J,hg,λ j v hv=>?_⟩,?_⟩
 ·rw [Uz];have hj:j < 19:=by
   have:j < (Z9 (W8 ds k) (es.getD k Qm)).length:=by
    rcases Nat.lt_or_ge j (Z9 (W8 ds k) (es.getD k Qm)).length with h'|h'
    ·exact h'
    ·rw [List.getElem?_eq_none h'] at hv;cases hv
   exact this
  exact h.cell hk hj hv
 ·have r:=h.rows k hk;have:=V8 (W8 ds k) (es.getD k Qm) (Yp r.1.1) (Yp r.2.1.1) (Yp r.2.2.1.1) (Yp r.2.2.2.1);exact this
theorem neq48_a (w:W):(binOp .neq 48 (A_ #[U Y 1,U Y 0,U Y 0]) (A_ #[U Y 1,U Y 0,U Y 0])).run N w=.ok (.bool false) w:=by kernel_rfl
theorem neq48_b (w:W):(binOp .neq 48 (A_ #[U Y 2,U Y 7,U Y 0]) (A_ #[U Y 1,U Y 0,U Y 0])).run N w=.ok (.bool true) w:=by kernel_rfl
theorem neq48_c (w:W):(binOp .neq 48 (A_ #[U Y 2,U Y 7,U Y 0]) (A_ #[U Y 2,U Y 7,U Y 0])).run N w=.ok (.bool false) w:=by kernel_rfl
theorem Ly {m:Int} (h0:0 < m) (h1:m<=1000) (a:Int):0<=(wrap64 (a.tmod m+m)).tmod m/\(wrap64 (a.tmod m+m)).tmod m < m:=by
 have e1:=Int.tmod_lt_of_pos a h0;have e2:=Int.lt_tmod_of_pos a h0;have e3:wrap64 (a.tmod m+m)=a.tmod m+m:=IntWalk.wrap64_in _ ⟨by omega,by omega⟩;rw [e3,Int.tmod_eq_emod_of_nonneg (by omega)];exact ⟨Int.emod_nonneg _ (by omega),Int.emod_lt_of_pos _ h0⟩
theorem th0 {b0 z:Nat} (zb:w.heap[z]? =I (X #[L O 0 0,L O 0 0,L O 0 0,L O 0 0] 61 (0,0))) (h:z < b0):ThB w b0 z [L O 0 0,L O 0 0,L O 0 0,L O 0 0] [[],[],[],[]]:=by
 have e:∀ t,t < 4->([L O 0 0,L O 0 0,L O 0 0,L O 0 0]:List Value).getD t undef=L O 0 0/\([[],[],[],[]]:List (List (Int×List Nat))).getD t []=[]:=by
  intro t ht;rcases (show t=0\/t=1\/t=2\/t=3 by omega) with rfl|rfl|rfl|rfl <;> exact ⟨J,J⟩
 refine ⟨J,J,zb,λ t ht=>⟨[],?_,?_⟩,λ t u ht _ _ g hg=>?_,h⟩
 ·rw [(e t ht).1,(e t ht).2];exact World.ownsRow_nil _ _ _ _
 ·rw [(e t ht).2];exact ⟨J,λ j hj=>absurd hj (by simp)⟩
 ·rw [(e t ht).1] at hg;simp [Value.ownBlock] at hg
theorem cs0 (n:Nat):Aw n [[],[],[],[]] 0:=⟨λ l hl c hc=>(by simp at hl;subst hl;cases hc),J⟩
theorem bank6_c {a:Int} {vm vl:Value} {l:List (Int×Int×Int×Int)} {sc:List Int} (hm:Moves w vm l) (hs:Bf w vl sc):
  Calls N 6 #[U Y a,vm,vl] w λ e w'=>e=R_ (.bool true)/\Ze [] w w':=by
 obtain ⟨ma,mc,rfl,hmc⟩:=id hm;obtain ⟨sa,scap,rfl,-⟩:=id hs;have HS:=Zh_ hs;have HMC:=Zh_ hmc;obtain ⟨n,hn,n2,xq⟩:∃ n:Nat,wrap64 (2+(wrap64 (a.tmod 9+9)).tmod 9)=(n:Int)/\2<=n/\n<=10:=by
  obtain ⟨q1,q2⟩:=Ly (m:=9) (by decide) (by decide) a;refine ⟨(2+(wrap64 (a.tmod 9+9)).tmod 9).toNat,?_,by omega,by omega⟩;rw [IntWalk.wrap64_in _ ⟨by omega,by omega⟩];omega
 obtain ⟨ln,hln⟩:∃ z,z=l.length:=⟨_,J⟩;have HLN:=Zh_ hln;rw [<-hln] at hmc ⊢
 clear hm hs hmc hln;go_enter func6,ntmps6;go_wp2_with fail;refine live_c.mono ?_;rintro e w1 ⟨rfl,m1⟩;have M1:=Zh_ m1;clear m1;go_upto_region 3 with fail;rw [hn]
 by_cases hb1:30 < ln
 ·have d1:decide ((ln:Int) > 30)=true:=decide_eq_true (by omega);go_wp2;go_ret;exact ⟨J,M1.out⟩
 have d1:decide ((ln:Int) > 30)=false:=D9 (by omega)
 by_cases hb2:4000 < sc.length
 ·have d2:decide ((sc.length:Int) > 4000)=true:=decide_eq_true (by omega);go_wp2;go_ret;exact ⟨J,M1.out⟩
 have d2:decide ((sc.length:Int) > 4000)=false:=D9 (by omega);go_wp2_with fail;refine (bank_c n2 xq).mono ?_;rintro e wb ⟨vs,vp,z,rfl,m2,hz,ZB,HF⟩;obtain ⟨fx,pr⟩:=HF wb (Zr_ _ _);obtain ⟨a5,c5,e5,-⟩:=fx;obtain ⟨a6,c6,e6,-⟩:=pr;rw [List.length_replicate] at e5;rw [show (Gj n).length=2 from J] at e6;subst e5 e6;go_upto_region 6 with fail;obtain ⟨sb,hsb⟩:∃ s,s=wb.heap.size:=⟨_,J⟩;rw [<-hsb];generalize hw3:wb.alloc _=w3;have m3:Ze [] wb w3:=by rw [<-hw3];exact (Zr_ _ _).alloc _
 have SB:w3.heap[sb]? =I (X #[U Y n,U Y 4,U Y 60,U Y 2,L a5 n c5,L a6 2 c6,L (I ⟨z,0,O⟩) 4 4] 28 (0,0)):=by rw [<-hw3,hsb];exact Zc _ _
 have ZB3:=m3.at ZB (by simp);have hzl:=B9 ZB;obtain ⟨b0,hb0⟩:∃ s,s=w3.heap.size:=⟨_,J⟩;have HB1:=Zh_ (show b0<=sb+1 by rw [hb0,<-hw3,hsb,World.size_alloc];exact Nat.le_refl _);have HT0:=Zh_ (th0 ZB3 (show z < b0 by rw [hb0];exact B9 ZB3));have HSB0:=Zh_ SB;have HM3:=Zh_ (m3.qj [z]);have HM2:=Zh_ (M1.out.trans m2);have HF':=Zh_ HF;have HSB':=Zh_ hsb;have HB0:=Zh_ hb0;have HZL:=Zh_ hzl;have HZG:=Zh_ hz;have HLL:=Zh_ hb1;have HSC:=Zh_ hb2;have hsl:sb < b0:=by rw [hb0];exact B9 SB
 have HSL:=Zh_ hsl;clear hw3 m3 SB ZB3 hzl hb0 m2 HF hsb hz ZB d1 d2 hb1 hb2 hsl;go_wp2_with fail
 go_loopw [38] (λ i wx=>∃ k:Nat,k<=ln/\i=U Y k/\∃ us cs,ThB wx b0 z us cs/\Aw n cs k/\wx.heap[sb]? =I (X #[U Y n,U Y 4,U Y 60,U Y 2,L a5 n c5,L a6 2 c6,L (I ⟨z,0,O⟩) 4 4] 28 (0,0))/\Ze [z] wb wx) (λ i _=>ln - (intOf i).toNat)
 case atStart=>exact ⟨0,by omega,rfl,_,_,HT0.out,cs0 n,HSB0.out,HM3.out⟩
 case round=>
  obtain ⟨k,hk,rfl,us,cs,hT,hC,hS,m⟩:=hrel;have m0:=HM2.out.then m (λ g hg=>.inr (by simp at hg;subst hg;have:=M1.out.size;have:=HZG.out;omega))
  by_cases hlt:k < ln
  ·have d4:decide ((k:Int) < (ln:Int))=true:=decide_eq_true (by omega);obtain ⟨g,o,rfl,hg,c0,c1,c2,c3⟩:=HMC.out k (by rw [<-HLN.out];exact hlt);obtain ⟨x0,hx0⟩:∃ x,x=(l.getD k (0,0,0,0)).1:=⟨_,J⟩;obtain ⟨x1,hx1⟩:∃ x,x=(l.getD k (0,0,0,0)).2.1:=⟨_,J⟩;obtain ⟨x2,hx2⟩:∃ x,x=(l.getD k (0,0,0,0)).2.2.1:=⟨_,J⟩;obtain ⟨x3,hx3⟩:∃ x,x=(l.getD k (0,0,0,0)).2.2.2:=⟨_,J⟩;rw [<-hx0] at c0;rw [<-hx1] at c1;rw [<-hx2] at c2;rw [<-hx3] at c3;replace c0:=Z5 m0 hg (by simp) c0;replace c1:=Z5 m0 hg (by simp) c1;replace c2:=Z5 m0 hg (by simp) c2;replace c3:=Z5 m0 hg (by simp) c3;have HTH:=Zh_ hT;have CSK:=Zh_ hC;have HSS:=Zh_ hS;have HM:=Zh_ m;clear hT hC hS m m0 hg hx0 hx1 hx2 hx3;go_upto_region 9 with fail;obtain ⟨qb,hqb⟩:∃ s,s=wr.heap.size:=⟨_,J⟩;rw [<-hqb];generalize hw7:wr.alloc _=w7;have QB:w7.heap[qb]? =I (X #[U Y x0,U Y x1,U Y x2,U Y x3] 60 (0,0)):=by rw [<-hw7,hqb];exact Zc _ _
   have m7:Ze [] wr w7:=by rw [<-hw7];exact (Zr_ _ _).alloc _
   have q0:=Za (i:=0) QB J;have q1:=Za (i:=1) QB J;have q2:=Za (i:=2) QB J;have q3:=Za (i:=3) QB J;have THR:=Zh_ (HTH.out.mod m7);have HSB:=Zh_ (m7.at HSS.out (by simp));have HM7:=Zh_ (HM.out.then m7 (λ g hg=>by simp at hg));clear hw7 QB m7 hqb c0 c1 c2 c3 HTH HSS HM;obtain ⟨t,ht,htl⟩:∃ t:Nat,(wrap64 (x0.tmod 4+4)).tmod 4=(t:Int)/\t < 4:=by
    obtain ⟨e1,e2⟩:=Ly (m:=4) (by decide) (by decide) x0;exact ⟨((wrap64 (x0.tmod 4+4)).tmod 4).toNat,by omega,by omega⟩
   go_upto_region 10 with fail;have HT:=Zh_ htl;obtain ⟨dl,hrow,hcd⟩:=THR.out.row t htl;obtain ⟨av,cv,hut⟩:=Zo hrow;obtain ⟨nd,hnd⟩:∃ s,s=(cs.getD t []).length:=⟨_,J⟩;rw [<-hnd] at hut hrow;rw [hut] at hrow;have hnd30:nd<=30:=by
    have h1:=CSK.out.sum;rw [sum4] at h1;have h2:=HLL.out;rcases (show t=0\/t=1\/t=2\/t=3 by omega) with rfl|rfl|rfl|rfl <;> omega
   obtain ⟨n9,hn9⟩:∃ s,s=w7.heap.size:=⟨_,J⟩;have HGL:=Zh_ (show ∀ g∈(L av nd cv).ownBlock.toList,g < n9 from λ g hg=>by rw [hn9];exact (hrow.lt g (Option.mem_toList.1 hg)).2);have HGB:=Zh_ (show ∀ g∈(L av nd cv).ownBlock.toList,b0<=g from λ g hg=>(hrow.lt g (Option.mem_toList.1 hg)).1);have HN9:=Zh_ (show n9<=w7.drew.heap.size from Nat.le_of_eq hn9);have HN9E:=Zh_ hn9.symm;have HBB:=Zh_ (show wb.heap.size<=b0 by have:=HSL.out;have:=HSB'.out;omega);have HB9:=Zh_ (show b0<=n9 by have h1:=B9 HSB.out;have h2:=HB1.out;omega);have HUT:=Zh_ hut;have HCN:=Zh_ hnd.symm;have HND:=Zh_ hnd30;have HOW:=Zh_ hrow;have HCD:=Zh_ hcd;have HZS:=Zh_ (show sb≠z by have:=HZL.out;have:=HSB'.out;omega);have HW:=Zh_ (show ∀ wx,Ze (L av nd cv).ownBlock.toList w7.drew wx->wx.cell? ⟨sb,6,O⟩=I (L (I ⟨z,0,O⟩) 4 4)/\wx.cell? ⟨z,t,O⟩=I (L av nd cv) from
    λ wx m=>by
     have mm:=((Zr_ _ w7).drew.qj _).trans m;refine ⟨Za (i:=6) (mm.at HSB.out (λ hm=>by have:=HGB.out _ hm;have:=HSL.out;omega)) J,?_⟩;rw [<-HUT.out];exact Za (mm.at THR.out.zb (λ hm=>by have:=HGB.out _ hm;have:=THR.out.om;omega)) (Fx (by rw [THR.out.l4];exact HT.out)))
   obtain ⟨i0,hi0,hz0,hz1,hz2⟩:=info_parts info63;clear ht htl hrow hut hnd hnd30 hcd hn9
   by_cases h5:x3.tmod 5=0
   ·have d5:decide (x3.tmod 5=0)=true:=decide_eq_true h5;go_upto_region 11 with fail;clear h5 q0 q1 q2 q3;refine Q3 (by kernel_rfl) 12 (by rfl) (Ze (L av nd cv).ownBlock.toList) (Kf (L av nd cv).ownBlock.toList 10) 10 (Ze [] w7.drew) (Dp n9 b0 sb z t av cv nd dl) (by kernel_rfl) (by rfl) (by kernel_rfl) (Am n9 b0 sb z t av cv nd dl HGL.out) (λ i a b h=>Xn h) (λ j a b hj h k=>k.trans (Xr hj h)) (Zr_ _ _) (λ a=>Zr_ _ _) (λ a b c h k=>h.trans k) (λ i v w' hv o ho hd=>Vi (m:=12) (by kernel_rfl) (Rd n9 b0 sb z t av cv nd dl) ho hd) ?_ ?_
    ·intro i o hi ho
     match i,hi with
     |0,_=>
      obtain rfl:=Zo_ ho;intro a wx hR hB hF hO;have f8:a.eval (.tmp 8)=E (I ⟨sb,0,O⟩):=hO 8 (by kernel_rfl) (Zm (by kernel_rfl));have e8:=Tv_ f8;clear hF hO hB hR;go_simp;exact ⟨Zx (by decide) (Zr_ _ _),J⟩
     |1,_=>
      obtain rfl:=Zo_ ho;intro a wx hR hB hF hO;have e51:=Tf_ hF 51 0 (E (I ⟨sb,6,O⟩));obtain ⟨c6,cz⟩:=HW.out wx hR;clear hF hO hB hR;go_simp;exact ⟨Zx (by decide) (Zr_ _ _),J⟩
     |2,_=>
      obtain rfl:=Zo_ ho;intro a wx hR hB hF hO;have f11:a.eval (.tmp 11)=U Y (t:Int):=hO 11 (by kernel_rfl) (Zm (by kernel_rfl));have e11:=Tv_ f11;clear hF hO hB hR;go_simp;exact ⟨Zx (by decide) (Zr_ _ _),J⟩
     |3,_=>
      obtain rfl:=Zo_ ho;intro a wx hR hB hF hO;have f8:a.eval (.tmp 8)=E (I ⟨sb,0,O⟩):=hO 8 (by kernel_rfl) (Zm (by kernel_rfl));have e8:=Tv_ f8;clear hF hO hB hR;go_simp;exact ⟨Zx (by decide) (Zr_ _ _),J⟩
     |4,_=>
      obtain rfl:=Zo_ ho;intro a wx hR hB hF hO;have e54:=Tf_ hF 54 3 (E (I ⟨sb,6,O⟩));obtain ⟨c6,cz⟩:=HW.out wx hR;clear hF hO hB hR;go_simp;exact ⟨Zx (by decide) (Zr_ _ _),J⟩
     |5,_=>
      obtain rfl:=Zo_ ho;intro a wx hR hB hF hO;have f11:a.eval (.tmp 11)=U Y (t:Int):=hO 11 (by kernel_rfl) (Zm (by kernel_rfl));have e11:=Tv_ f11;clear hF hO hB hR;go_simp;exact ⟨Zx (by decide) (Zr_ _ _),J⟩
     |6,_=>
      obtain rfl:=Zo_ ho;intro a wx hR hB hF hO;have e55:=Tf_ hF 55 4 (L (I ⟨z,0,O⟩) 4 4);have e56:=Tf_ hF 56 5 (U Y (t:Int));have ht:(t:Int) < 4:=by have:=HT.out;omega
      clear hF hO hB hR;go_simp;exact ⟨Zx (by decide) (Zr_ _ _),J⟩
     |7,_=>
      obtain rfl:=Zo_ ho;intro a wx hR hB hF hO;have e57:=Tf_ hF 57 6 (E (I ⟨z,t,O⟩));obtain ⟨c6,cz⟩:=HW.out wx hR;clear hF hO hB hR;go_simp;exact ⟨Zx (by decide) (Zr_ _ _),J⟩
     |8,_=>
      obtain rfl:=Zo_ ho;intro a wx hR hB hF hO;clear hF hO hB;go_simp;exact ⟨Zx (by decide) (Zr_ _ _),J⟩
     |9,_=>
      obtain rfl:=Zo_ ho;intro a wx hR hB hF hO;have f59:a.eval (.tmp 59)=A_ #[U Y 1,L O 0 0]:=hF 59 8 _ (by kernel_rfl) J J;exact Qb 61 63 _ J #[U Y 1,L O 0 0] f59 i0 _ underlying61 hi0 hz0 (by rw [hz1];rfl) (by show 0 < 2;decide) (by show 2<=1000;decide) ⟨Zx (by decide) ((Zr_ _ _).alloc _),_,J,Zc _ _,Nat.le_trans HN9.out hR.size⟩
     |10,_=>
      obtain rfl:=Zo_ ho;intro a wx hR hB hF hO;have f58:a.eval (.tmp 58)=L av nd cv:=hF 58 7 _ (by kernel_rfl) J J;obtain ⟨C,f60,hC,hC3⟩:∃ C,a.eval (.tmp 60)=L (I ⟨C,0,O⟩) 1 1/\wx.heap[C]? =I (.cells ([U Y 1,L O 0 0]:List Value).toArray 63 (0,0))/\n9<=C:=hF 60 9 _ (by kernel_rfl) J J;refine Y2 (.tmp 58) (.tmp 60) 61 J b0 63 i0 (A_ #[U Y 0,L O 0 0]) 2 32 underlying61 hi0 hz0 hz1 hz2 J (by decide) (L av nd cv) nd dl f58 (Xk HOW.out (((Zr_ [] w7).drew).trans (hB J)) (by simp)) ⟨C,0,O⟩ 1 1 [U Y 1,L O 0 0] f60 J (Jf hC) (by intro u hu;simp at hu;rcases hu with rfl|rfl <;> rfl) (by unfold maxLen;have:=HND.out;omega) (by have:=HND.out;omega) (Nat.le_trans (Nat.le_trans HB9.out HN9.out) hR.size) ?_;intro v' w' ho hg hat;have mg:=(Zr_ _ wx).grown hg (λ g hg=>.inl (Option.mem_toList.2 hg));exact ⟨Ht mg,ho,Wn hat (Nat.le_trans HN9.out hR.size)⟩
     |11,_=>
      obtain rfl:=Zo_ ho;intro a wx hR hB hF hO;have e52:=Tf_ hF 52 1 (L (I ⟨z,0,O⟩) 4 4);have e53:=Tf_ hF 53 2 (U Y (t:Int));have ht:(t:Int) < 4:=by have:=HT.out;omega
      clear hF hO hB hR;go_simp;exact ⟨Zx (by decide) (Zr_ _ _),J⟩
     |j+12,hh=>omega
    ·intro vs w8 hR hv;have e11:vs 11=E (I ⟨z,t,O⟩):=hv 11 (by decide);have hq0:w8.ownsRow b0 63 2 (vs 10) (nd+1) (dl++[U Y 1,L O 0 0])/\∀ g,(vs 10).ownBlock=I g->(L av nd cv).ownBlock=I g\/n9<=g:=hv 10 (by decide);obtain ⟨row,hat⟩:=hq0;obtain ⟨ca,cc,ek⟩:=Zo row;rw [ek] at row hat;have T8:=THR.out.snoc HT.out (dl:=dl) (by rw [HUT.out,HCN.out];exact HOW.out) HCD.out (p:=1) (a:=[]) (u:=L O 0 0) (w':=w8) (v':=L ca (nd+1) cc) (.inl ⟨J,J⟩) (by rw [HUT.out];exact ((Zr_ _ w7).drew.qj _).trans hR) (by rw [HCN.out];exact row) (λ g hg=>by rw [HUT.out];exact (hat g hg).imp id (λ h=>Nat.le_trans (Nat.le_of_eq HN9E.out) h));have K8:=CSK.out.snoc THR.out.c4 HT.out (c:=(1,[])) (.inl J);have z8:=THR.out.om;have zb8:w8.heap[z]? =_:=hR.at (THR.out.zb) (λ hm=>by have:=HGB.out _ hm;omega);have x8:=Za (i:=t) zb8 (Fx (by rw [THR.out.l4];exact HT.out));have y8:=Zb (i:=t) zb8;have S8:=hR.at HSB.out (λ hm=>by have:=HGB.out _ hm;have:=HSL.out;omega);have S9:(w8.setCell ⟨z,t,O⟩ (L ca (nd+1) cc)).heap[sb]? =_:=Zr _ S8 HZS.out;have M9:Ze [z] wb (w8.setCell ⟨z,t,O⟩ (L ca (nd+1) cc)):=((HM7.out.drew.then hR (λ g hg=>.inr (by have:=HGB.out _ hg;have:=HBB.out;omega)))).setCell _ _ (.inl (by simp));have HT8:=Zh_ T8;have HK8:=Zh_ K8;have HS9:=Zh_ S9;have HM9:=Zh_ M9;clear hv hR row hat T8 K8 zb8 S8 S9 M9 z8;simp only [Yx,List.take_succ_cons,List.take_zero,Act.put,ek,e11];clear ek e11;go_simp;have hll:=HLL.out;go_wp2;go_roundw
     case rel=>exact ⟨k+1,by omega,by go_num,_,_,HT8.out,HK8.out,HS9.out,HM9.out⟩
     case measure=>simp [intOf];omega
   ·have d5:decide (x3.tmod 5=0)=false:=D9 h5;have dn:(n:Int)≠0:=by omega
    obtain ⟨p1,hp1,hp1l⟩:∃ p:Nat,(wrap64 (x1.tmod n+n)).tmod n=(p:Int)/\p < n:=by
     obtain ⟨e1,e2⟩:=Ly (m:=n) (by omega) (by omega) x1;exact ⟨((wrap64 (x1.tmod n+n)).tmod n).toNat,by omega,by omega⟩
    obtain ⟨p2,hp2,hp2l⟩:∃ p:Nat,(wrap64 (x2.tmod n+n)).tmod n=(p:Int)/\p < n:=by
     obtain ⟨e1,e2⟩:=Ly (m:=n) (by omega) (by omega) x2;exact ⟨((wrap64 (x2.tmod n+n)).tmod n).toNat,by omega,by omega⟩
    obtain ⟨p3,hp3,hp3l⟩:∃ p:Nat,(wrap64 (x3.tmod 150+150)).tmod 150=(p:Int)/\p < 150:=by
     obtain ⟨e1,e2⟩:=Ly (m:=150) (by decide) (by decide) x3;exact ⟨((wrap64 (x3.tmod 150+150)).tmod 150).toNat,by omega,by omega⟩
    go_upto_region 15 with fail;have HP1:=Zh_ hp1l;have HP2:=Zh_ hp2l;have HP3:=Zh_ hp3l;clear h5 q0 q1 q2 q3 hp1 hp2 hp3 hp1l hp2l hp3l dn;refine Q3 (by kernel_rfl) 19 (by rfl) (Ze (L av nd cv).ownBlock.toList) (Kf (L av nd cv).ownBlock.toList 17) 17 (Ze [] w7.drew) (Dn n9 b0 sb z t av cv nd dl p1 p2 p3) (by kernel_rfl) (by rfl) (by kernel_rfl) (Al n9 b0 sb z t av cv nd dl p1 p2 p3 HGL.out) (λ i a b h=>Xn h) (λ j a b hj h k=>k.trans (Xr hj h)) (Zr_ _ _) (λ a=>Zr_ _ _) (λ a b c h k=>h.trans k) (λ i v w' hv o ho hd=>Vi (m:=19) (by kernel_rfl) (Rc n9 b0 sb z t av cv nd dl p1 p2 p3) ho hd) ?_ ?_
    ·intro i o hi ho
     match i,hi with
     |0,_=>
      obtain rfl:=Zo_ ho;intro a wx hR hB hF hO;have f8:a.eval (.tmp 8)=E (I ⟨sb,0,O⟩):=hO 8 (by kernel_rfl) (Zm (by kernel_rfl));have e8:=Tv_ f8;clear hF hO hB hR;go_simp;exact ⟨Zx (by decide) (Zr_ _ _),J⟩
     |1,_=>
      obtain rfl:=Zo_ ho;intro a wx hR hB hF hO;have e84:=Tf_ hF 84 0 (E (I ⟨sb,6,O⟩));obtain ⟨c6,cz⟩:=HW.out wx hR;clear hF hO hB hR;go_simp;exact ⟨Zx (by decide) (Zr_ _ _),J⟩
     |2,_=>
      obtain rfl:=Zo_ ho;intro a wx hR hB hF hO;have f11:a.eval (.tmp 11)=U Y (t:Int):=hO 11 (by kernel_rfl) (Zm (by kernel_rfl));have e11:=Tv_ f11;clear hF hO hB hR;go_simp;exact ⟨Zx (by decide) (Zr_ _ _),J⟩
     |3,_=>
      obtain rfl:=Zo_ ho;intro a wx hR hB hF hO;have e8:=To_ hO 8 (E (I ⟨sb,0,O⟩));clear hF hO hB hR;go_simp;exact ⟨Zx (by decide) (Zr_ _ _),J⟩
     |4,_=>
      obtain rfl:=Zo_ ho;intro a wx hR hB hF hO;have e87:=Tf_ hF 87 3 (E (I ⟨sb,6,O⟩));obtain ⟨c6,cz⟩:=HW.out wx hR;clear hF hO hB hR;go_simp;exact ⟨Zx (by decide) (Zr_ _ _),J⟩
     |5,_=>
      obtain rfl:=Zo_ ho;intro a wx hR hB hF hO;have e11:=To_ hO 11 (U Y (t:Int));clear hF hO hB hR;go_simp;exact ⟨Zx (by decide) (Zr_ _ _),J⟩
     |6,_=>
      obtain rfl:=Zo_ ho;intro a wx hR hB hF hO;have e88:=Tf_ hF 88 4 (L (I ⟨z,0,O⟩) 4 4);have e89:=Tf_ hF 89 5 (U Y (t:Int));have ht:(t:Int) < 4:=by have:=HT.out;omega
      clear hF hO hB hR;go_simp;exact ⟨Zx (by decide) (Zr_ _ _),J⟩
     |7,_=>
      obtain rfl:=Zo_ ho;intro a wx hR hB hF hO;have e90:=Tf_ hF 90 6 (E (I ⟨z,t,O⟩));obtain ⟨c6,cz⟩:=HW.out wx hR;clear hF hO hB hR;go_simp;exact ⟨Zx (by decide) (Zr_ _ _),J⟩
     |8,_=>
      obtain rfl:=Zo_ ho;intro a wx hR hB hF hO;have e13:=To_ hO 13 (U Y (p1:Int));clear hF hO hB hR;go_simp;exact ⟨Zx (by decide) (Zr_ _ _),J⟩
     |9,_=>
      obtain rfl:=Zo_ ho;intro a wx hR hB hF hO;have e92:=Tf_ hF 92 8 (U Y (p1:Int));clear hF hO hB hR;go_simp;exact ⟨Zx (by decide) (Zr_ _ _),J⟩
     |10,_=>
      obtain rfl:=Zo_ ho;intro a wx hR hB hF hO;have e14:=To_ hO 14 (U Y (p2:Int));clear hF hO hB hR;go_simp;exact ⟨Zx (by decide) (Zr_ _ _),J⟩
     |11,_=>
      obtain rfl:=Zo_ ho;intro a wx hR hB hF hO;have e94:=Tf_ hF 94 10 (U Y (p2:Int));clear hF hO hB hR;go_simp;exact ⟨Zx (by decide) (Zr_ _ _),J⟩
     |12,_=>
      obtain rfl:=Zo_ ho;intro a wx hR hB hF hO;have e12:=To_ hO 12 (U Y (p3:Int));clear hF hO hB hR;go_simp;exact ⟨Zx (by decide) (Zr_ _ _),J⟩
     |13,_=>
      obtain rfl:=Zo_ ho;intro a wx hR hB hF hO;have e96:=Tf_ hF 96 12 (U Y (p3:Int));clear hF hO hB hR;go_simp;exact ⟨Zx (by decide) (Zr_ _ _),J⟩
     |14,_=>
      obtain rfl:=Zo_ ho;intro a wx hR hB hF hO;have e93:=Tf_ hF 93 9 (Z V (fl p1));have e95:=Tf_ hF 95 11 (Z V (fl p2));have e97:=Tf_ hF 97 13 (Z V (fl p3));have hs:=Nat.le_trans HN9.out hR.size;clear hF hO hB hR;go_simp;exact ⟨Zx (by decide) ((Zr_ _ _).alloc _),_,J,Zc _ _,hs⟩
     |15,_=>
      obtain rfl:=Zo_ ho;intro a wx hR hB hF hO;obtain ⟨B,f98,hB2,hB3⟩:∃ B,a.eval (.tmp 98)=L (I ⟨B,0,O⟩) 3 3/\wx.heap[B]? =I (.cells ([Z V (fl p1),Z V (fl p2),Z V (fl p3)]:List Value).toArray 51 (0,0))/\n9<=B:=hF 98 14 _ (by kernel_rfl) J J;have e98:=Tv_ f98;have HB2:=Zh_ hB2;have HB3:=Zh_ hB3;clear hF hO hB hR hB2 hB3;go_simp;exact ⟨Zx (by decide) (Zr_ _ _),B,J,HB2.out,HB3.out⟩
     |16,_=>
      obtain rfl:=Zo_ ho;intro a wx hR hB hF hO;obtain ⟨B,f99,hB2,hB3⟩:∃ B,a.eval (.tmp 99)=A_ #[U Y 0,L (I ⟨B,0,O⟩) 3 3]/\wx.heap[B]? =I (.cells ([Z V (fl p1),Z V (fl p2),Z V (fl p3)]:List Value).toArray 51 (0,0))/\n9<=B:=hF 99 15 _ (by kernel_rfl) J J;exact Qb 61 63 _ J #[U Y 0,L (I ⟨B,0,O⟩) 3 3] f99 i0 _ underlying61 hi0 hz0 (by rw [hz1];rfl) (by show 0 < 2;decide) (by show 2<=1000;decide) ⟨Zx (by decide) ((Zr_ _ _).alloc _),_,_,J,Zc _ _,Nat.le_trans HN9.out hR.size,Zf _ hB2,hB3⟩
     |17,_=>
      obtain rfl:=Zo_ ho;intro a wx hR hB hF hO;have f91:a.eval (.tmp 91)=L av nd cv:=hF 91 7 _ (by kernel_rfl) J J;obtain ⟨C,B,f100,hC,hC3,hB2,hB3⟩:∃ C B,a.eval (.tmp 100)=L (I ⟨C,0,O⟩) 1 1/\wx.heap[C]? =I (.cells ([U Y 0,L (I ⟨B,0,O⟩) 3 3]:List Value).toArray 63 (0,0))/\n9<=C/\wx.heap[B]? =I (.cells ([Z V (fl p1),Z V (fl p2),Z V (fl p3)]:List Value).toArray 51 (0,0))/\n9<=B:=hF 100 16 _ (by kernel_rfl) J J;refine Y2 (.tmp 91) (.tmp 100) 61 J b0 63 i0 (A_ #[U Y 0,L O 0 0]) 2 32 underlying61 hi0 hz0 hz1 hz2 J (by decide) (L av nd cv) nd dl f91 (Xk HOW.out (((Zr_ [] w7).drew).trans (hB J)) (by simp)) ⟨C,0,O⟩ 1 1 [U Y 0,L (I ⟨B,0,O⟩) 3 3] f100 J (Jf hC) (by intro u hu;simp at hu;rcases hu with rfl|rfl <;> rfl) (by unfold maxLen;have:=HND.out;omega) (by have:=HND.out;omega) (Nat.le_trans (Nat.le_trans HB9.out HN9.out) hR.size) ?_;intro v' w' ho hg hat;have mg:=(Zr_ _ wx).grown hg (λ g hg=>.inl (Option.mem_toList.2 hg));exact ⟨Ht mg,B,⟨ho,Wn hat (Nat.le_trans HN9.out hR.size)⟩,mg.at hB2 (λ hm=>by have:=HGL.out _ hm;omega),hB3⟩
     |18,_=>
      obtain rfl:=Zo_ ho;intro a wx hR hB hF hO;have e85:=Tf_ hF 85 1 (L (I ⟨z,0,O⟩) 4 4);have e86:=Tf_ hF 86 2 (U Y (t:Int));have ht:(t:Int) < 4:=by have:=HT.out;omega
      clear hF hO hB hR;go_simp;exact ⟨Zx (by decide) (Zr_ _ _),J⟩
     |j+19,hh=>omega
    ·intro vs w8 hR hv;have e18:vs 18=E (I ⟨z,t,O⟩):=hv 18 (by decide);have hq0:∃ B,(w8.ownsRow b0 63 2 (vs 17) (nd+1) (dl++[U Y 0,L (I ⟨B,0,O⟩) 3 3])/\∀ g,(vs 17).ownBlock=I g->(L av nd cv).ownBlock=I g\/n9<=g)/\w8.heap[B]? =I (.cells ([Z V (fl p1),Z V (fl p2),Z V (fl p3)]:List Value).toArray 51 (0,0))/\n9<=B:=hv 17 (by decide);obtain ⟨B,⟨row,hat⟩,hB2,hB3⟩:=hq0;obtain ⟨ca,cc,ek⟩:=Zo row;rw [ek] at row hat;have T8:=THR.out.snoc HT.out (dl:=dl) (by rw [HUT.out,HCN.out];exact HOW.out) HCD.out (p:=0) (a:=[fl p1,fl p2,fl p3]) (u:=L (I ⟨B,0,O⟩) 3 3) (w':=w8) (v':=L ca (nd+1) cc) (.inr ⟨B,J,hB2⟩) (by rw [HUT.out];exact ((Zr_ _ w7).drew.qj _).trans hR) (by rw [HCN.out];exact row) (λ g hg=>by rw [HUT.out];exact (hat g hg).imp id (λ h=>Nat.le_trans (Nat.le_of_eq HN9E.out) h));have K8:=CSK.out.snoc THR.out.c4 HT.out (c:=(0,[fl p1,fl p2,fl p3])) (.inr ⟨p1,p2,p3,HP1.out,HP2.out,HP3.out,J⟩);have z8:=THR.out.om;have zb8:w8.heap[z]? =_:=hR.at (THR.out.zb) (λ hm=>by have:=HGB.out _ hm;omega);have x8:=Za (i:=t) zb8 (Fx (by rw [THR.out.l4];exact HT.out));have y8:=Zb (i:=t) zb8;have S8:=hR.at HSB.out (λ hm=>by have:=HGB.out _ hm;have:=HSL.out;omega);have S9:(w8.setCell ⟨z,t,O⟩ (L ca (nd+1) cc)).heap[sb]? =_:=Zr _ S8 HZS.out;have M9:Ze [z] wb (w8.setCell ⟨z,t,O⟩ (L ca (nd+1) cc)):=((HM7.out.drew.then hR (λ g hg=>.inr (by have:=HGB.out _ hg;have:=HBB.out;omega)))).setCell _ _ (.inl (by simp));have HT8:=Zh_ T8;have HK8:=Zh_ K8;have HS9:=Zh_ S9;have HM9:=Zh_ M9;clear hv hR row hat T8 K8 zb8 S8 S9 M9 z8;simp only [Yx,List.take_succ_cons,List.take_zero,Act.put,ek,e18];clear ek e18;go_simp;have hll:=HLL.out;go_wp2;go_roundw
     case rel=>exact ⟨k+1,by omega,by go_num,_,_,HT8.out,HK8.out,HS9.out,HM9.out⟩
     case measure=>simp [intOf];omega
  ·have hk30:k<=30:=by have:=HLL.out;omega
   have d4:decide ((k:Int) < (ln:Int))=false:=D9 (by omega);have hbo:=hC.ok hT.c4 n2 xq hk30;have hsum:=hC.sum;obtain ⟨fx,pr⟩:=HF'.out wr m;have SR:SetRs wr (A_ #[U Y n,U Y 4,U Y 60,U Y 2,L a5 n c5,L a6 2 c6,L (I ⟨z,0,O⟩) 4 4]) n 4 60 2 (List.replicate n (fl 100)) (Gj n) cs:=⟨_,_,_,J,fx,pr,hT.thr⟩;have s0:=Za (i:=0) hS J;have s1:=Za (i:=1) hS J;have s2:=Za (i:=2) hS J;have s3:=Za (i:=3) hS J;have s4:=Za (i:=4) hS J;have s5:=Za (i:=5) hS J;have s6:=Za (i:=6) hS J;have HBO:=Zh_ hbo;have HSUM:=Zh_ hsum;have HSR:=Zh_ SR;have HMW:=Zh_ m0;have HKL:=Zh_ (show k=ln by omega);clear hT hC hS m m0 fx pr SR hbo hsum;go_wp2_with fail;refine (Te HBO.out.set HBO.out.oy HSR.out).mono ?_;rintro e w4 ⟨x,rfl,G⟩;have HG:=Zh_ (show Xx wr x (X0 n cs) [] (X0 n cs) w4 from G);have HM4:=Zh_ (HMW.out.trans G.fr);clear G s0 s1 s2 s3 s4 s5 s6;go_wp2_with fail;refine (HG.out.vg (HS.out.mod HM4.out) (by have:=HSC.out;omega) (by have:=HSC.out;simp;omega)).mono ?_;rintro e w5 ⟨nr,s,rfl,G5⟩;have hl5:([]++Vm (X0 n cs).qi.length sc).length<=4000:=by have:=HSC.out;simp [Vm];omega
   obtain ⟨ts,hts⟩:∃ t,t=[]++Vm (X0 n cs).qi.length sc:=⟨_,J⟩;rw [<-hts] at G5 hl5;obtain ⟨Gf,hst,hsm⟩:=(Cg HBO.out G5 (by omega)).state;have HG5:=Zh_ G5;have HL5:=Zh_ hl5;have C5:=G5.vf;rw [hst] at C5;have HC5:=Zh_ C5;have HSM:=Zh_ hsm;clear G5 hl5 hts hst C5 hsm;go_wp2_with fail;refine HC5.out.mono ?_;rintro e w6 ⟨u,rfl,⟨row,-⟩,m6⟩;rw [List.length_map,List.length_range] at row;have HG6:=Zh_ (HG5.out.mod m6);obtain ⟨ua,uc,rfl⟩:=Zo row;have HRW:=Zh_ row;clear row m6;go_wp2_with fail;refine (Wh HRW.out xq HSM.out).mono ?_;rintro e w7 ⟨rfl,m7⟩;have HG7:=Zh_ (HG6.out.mod m7);clear m7;go_wp2_with fail;refine (finish_c HBO.out HG7.out (by have:=HL5.out;omega)).mono ?_;rintro e w8 ⟨rfl,ts8,s8,G8,hl8,ho8⟩;have B8:=Cg HBO.out G8 (by omega);obtain ⟨hvl,hvd⟩:=B8.ze ho8;obtain ⟨G2,hst,hsm⟩:=B8.state;have HVL:=Zh_ (hvl.trans HSUM.out);have HVD:=Zh_ hvd;have HST:=Zh_ hst;have HSM2:=Zh_ hsm;have HG8:=Zh_ G8;have HL8:=Zh_ hl8;have HO8:=Zh_ ho8;clear G8 hl8 ho8 B8 hvl hvd hst hsm;go_wp2_with fail;refine (HG8.out.vu (by have:=HL8.out;omega)).mono ?_;rintro e w9 ⟨u9,es,rfl,qK,m9⟩;obtain ⟨ds,hds⟩:∃ d,d=s8.view:=⟨_,J⟩;rw [<-hds] at qK;have hvd:=HVD.out;have hvl:=HVL.out;rw [<-hds] at hvd hvl;obtain ⟨av,cap,hu⟩:=Zo qK.row;subst hu;obtain ⟨dn,hdn⟩:∃ n,n=ds.length:=⟨_,J⟩;have HF:=Zh_ (λ q (hq:q < dn)=>qK.gb (k:=q) (by rw [<-hdn];exact hq));have HR:=Zh_ (λ q (hq:q < dn)=>qK.rows q (by rw [<-hdn];exact hq));have HD:=Zh_ (show ∀ q,q < dn->_ from λ q (hq:q < dn)=>hvd (W8 ds q) (by unfold W8;exact Ki (by rw [<-hdn];exact hq)));rw [<-hdn] at hvl;have HDK:=Zh_ (show dn=ln by rw [hvl];exact HKL.out);rw [<-hdn];have HG9:=Zh_ (HG8.out.mod m9);have HDN:=Zh_ (show dn<=30 by omega);have HDS:=Zh_ hds;have HDL:=Zh_ hdn;have N0:=n2;clear hdn hvl hvd qK m9 hds;go_wp2_with fail
   go_loopw [128] (λ i wx=>∃ q:Nat,q<=dn/\i=U Y q/\Ze [] w9 wx) (λ i _=>dn - (intOf i).toNat)
   case atStart=>exact ⟨0,by omega,rfl,Zr_ _ _⟩
   case round=>
    obtain ⟨z,hz,rfl,m⟩:=hrel;have HM:=Zh_ m;have hdn30:=HDN.out;clear m
    by_cases hlt:z < dn
    ·have d4:decide ((z:Int) < (dn:Int))=true:=decide_eq_true (by omega);go_upto_region 26 with fail;obtain ⟨⟨ag,ae,ahg,ahc⟩,aone⟩:=HF.out z (by omega);subst ae;obtain ⟨d1,acs⟩:∃ cs:Array Value,cs=(Z9 (W8 ds z) (es.getD z Qm)).toArray:=⟨_,J⟩;have az:d1.size=19:=by rw [acs];rfl
     have acl:∀ (i0:Nat) (v:Value),d1.toList[i0]? =I v->wr.cell? ((⟨ag,z * 19,O⟩:Addr).add i0)=I v:=by
      rw [acs];exact λ i0 v hv=>Z5 HM.out (by rw [G9];exact ahg) (by simp) (ahc i0 v (by simpa using hv))
     have aon:∀ u∈d1.toList,u.oneCell'=true:=by rw [acs];simpa using aone
     have aCS:=Zh_ acs;have aZ:=Zh_ az;have aCL:=Zh_ acl;have aON:=Zh_ aon;obtain ⟨q1,aq⟩:∃ r,r=wr.heap.size:=⟨_,J⟩;clear ahg ahc aone acs az acl aon;refine wp_region_lit ?_;refine Y4 (E (I ⟨ag,z * 19,O⟩)) J (by go_simp) ?_;refine Kt J 50 _ J ⟨ag,z * 19,O⟩ J d1 _ aCL.out underlying50 J (by rw [aZ.out];kernel_rfl) ?_;refine Yn J ?_;go_simp;refine Gv ?_;have aB8:(wr.alloc (X #[U Y 0,U Y 0,U Y 0,U Y 0,L O 0 0,U Y 0,U Y 0,L O 0 0,L O 0 0,L O 0 0,U Y 0,U Y 0,U Y 0,U Y 0,U Y 0,U Y 0,U Y 0,U Y 0,U Y 0] 50)).heap[q1]? =I (.cells Yd 50 (0,0)):=by rw [aq];exact Zc _ _
     have aM8:Ze [] wr (wr.alloc (X #[U Y 0,U Y 0,U Y 0,U Y 0,L O 0 0,U Y 0,U Y 0,L O 0 0,L O 0 0,L O 0 0,U Y 0,U Y 0,U Y 0,U Y 0,U Y 0,U Y 0,U Y 0,U Y 0,U Y 0] 50)):=(Zr_ _ _).alloc _;rw [<-aq];have aQ:=Zh_ aq;clear aq;generalize wr.alloc (X #[U Y 0,U Y 0,U Y 0,U Y 0,L O 0 0,U Y 0,U Y 0,L O 0 0,L O 0 0,L O 0 0,U Y 0,U Y 0,U Y 0,U Y 0,U Y 0,U Y 0,U Y 0,U Y 0,U Y 0] 50)=w60 at *
     refine wpList_store_row J 50 _ _ J q1 d1 J J 50 _ aB8 (by rw [aZ.out];kernel_rfl) (by rw [aZ.out];rfl) (by rw [Array.all_eq_true_iff_forall_mem];intro u hu;exact aON.out u (by simpa using hu)) ?_;have aB9:(w60.setRow q1 d1).heap[q1]? =I (.cells d1 50 (0,0)):=Y0 aB8;have aM9:Ze [] wr (w60.setRow q1 d1):=aM8.setRow _ _ (.inr (by rw [aQ.out];exact Nat.le_refl _));have aB:=Zh_ aB9;have aM:=Zh_ aM9;clear aB8 aM8 aB9 aM9;generalize w60.setRow q1 d1=w6 at *
     go_simp;obtain ⟨hec,hee,hhw,hou⟩:=HD.out z hlt;obtain ⟨-,-,-,⟨t4,-⟩⟩:=HR.out z hlt;generalize hex:es.getD z Qm=ez at t4;obtain ⟨oa,oc,hoa⟩:=Zo t4;rw [hoa] at t4;replace t4:=Zt t4 HM.out (by simp);replace t4:=Zt t4 aM.out (by simp);obtain ⟨xtg,xhtg⟩:∃ r,r=(W8 ds z).tag:=⟨_,J⟩;obtain ⟨xo,xho⟩:∃ r,r=(W8 ds z).out:=⟨_,J⟩;obtain ⟨xhw,xhhw⟩:∃ r,r=(W8 ds z).qq:=⟨_,J⟩;have xctg:w6.cell? ⟨q1,3,O⟩=I (U Y xtg):=Za aB.out (by rw [aCS.out,xhtg];rfl);have xco:w6.cell? ⟨q1,9,O⟩=I (L oa xo.length oc):=Za aB.out (by rw [aCS.out,xho,hex];simp only [Z9,List.getElem?_toArray,List.getElem?_cons_succ,List.getElem?_cons_zero];rw [hoa];rfl);have xch:w6.cell? ⟨q1,10,O⟩=I (U Y xhw):=Za aB.out (by rw [aCS.out,xhhw];rfl);have xcc:w6.cell? ⟨q1,11,O⟩=I (U Y (if xhw=2 then 7 else 0)):=Za aB.out (by rw [aCS.out,xhhw,<-hec];rfl);have xce:w6.cell? ⟨q1,12,O⟩=I (U Y 0):=Za aB.out (by rw [aCS.out,<-hee];rfl);rw [<-xhtg] at hhw hou;change w6.ownsRow 0 51 1 (L oa (W8 ds z).out.length oc) (W8 ds z).out.length ((W8 ds z).out.map (Z V)) at t4;rw [<-xho] at hou t4;rw [<-xhhw] at hhw;have HT4:=Zh_ t4;have HM6:=Zh_ (HM.out.trans aM.out);have HHW:=Zh_ hhw;have HOU:=Zh_ hou;clear hec hee hhw hou t4 hex hoa xhtg xho xhhw;have n1:=neq48_a;have n2':=neq48_b;have n3:=neq48_c
     by_cases ht1:xtg=1
     ·subst ht1;have e1:xhw=1:=by
       rcases HHW.out with h|h
       ·exact h
       ·omega
      subst e1;rw [Q9 (by decide)] at xcc;have eo:=HOU.out (by decide);subst eo;have xco':w6.cell? ⟨q1,9,O⟩=I (L oa 1 oc):=xco;have e2:floatOfInt .f64 (100 * (n:Int))=fl (100 * n):=by
       show floatOfInt .f64 (100 * (n:Int))=floatOfInt .f64 ((100 * n:Nat):Int);congr 1
      have A:=Zc w6 (X #[Z V (floatOfInt .f64 (100 * (n:Int)))] 51);have H2:=Zh_ (Bw (base:=0) A J (by unfold maxLen;show 1<=_;decide) (Nat.zero_le _));have HE2:=Zh_ e2;clear xco e2 A;go_wp2_with fail;refine (Cd (l:=[fl (100 * n)]) (Zt HT4.out ((Zr_ [] w6).alloc _) (by simp)) (by have h:=H2.out;rw [HE2.out] at h;exact h) (by show 1<=4096;decide)).mono ?_;rintro e w10 ⟨rfl,m10⟩;have HM10:=Zh_ ((HM6.out.alloc _).trans m10);have xct2:=Z5 (((Zr_ [] w6).alloc _).trans m10) (B9 aB.out) (by simp) xctg;clear m10 xctg xco' xch xcc xce;go_wp2;go_roundw
      case rel=>exact ⟨z+1,by omega,by go_num,HM10.out⟩
      case measure=>simp [intOf];omega
     ·have dt1:decide (xtg=1)=false:=D9 ht1
      by_cases ht2:xtg=2
      ·subst ht2;rcases HHW.out with h|⟨h,-⟩
       ·subst h;rw [Q9 (by decide)] at xcc;go_wp2;go_roundw
        case rel=>exact ⟨z+1,by omega,by go_num,HM6.out⟩
        case measure=>simp [intOf];omega
       ·subst h;rw [P9 rfl] at xcc;go_wp2;go_roundw
        case rel=>exact ⟨z+1,by omega,by go_num,HM6.out⟩
        case measure=>simp [intOf];omega
      ·have dt2:decide (xtg=2)=false:=D9 ht2;go_wp2;go_roundw
       case rel=>exact ⟨z+1,by omega,by go_num,HM6.out⟩
       case measure=>simp [intOf];omega
    ·have d4:decide ((z:Int) < (dn:Int))=false:=D9 (by omega);have HGR:=Zh_ (HG9.out.mod HM.out);have hvl:s8.view.length=ln:=by rw [<-HDS.out,<-HDL.out];exact HDK.out
     have C:=HGR.out.km;rw [HO8.out] at C;have HC1:=Zh_ C;have HV8:=Zh_ hvl;clear C hvl HM;go_wp2_with fail;refine HC1.out.mono ?_;rintro e w10 ⟨rfl,m10⟩;have HG10:=Zh_ (HGR.out.mod m10);clear m10;go_wp2_with fail;refine (HG10.out.vu (by have:=HL8.out;omega)).mono ?_;rintro e w11 ⟨u11,es2,rfl,O2,m11⟩;obtain ⟨a2,c2,e2⟩:=Zo O2.row;rw [HV8.out] at e2;subst e2;have HG11:=Zh_ (HG10.out.mod m11);clear O2 m11;have d5:decide ((ln:Int)=(ln:Int))=true:=decide_eq_true J;have C:=HG11.out.vf;rw [HST.out] at C;have HC2:=Zh_ C;clear C;go_wp2_with fail;refine HC2.out.mono ?_;rintro e w12 ⟨u12,rfl,⟨row,-⟩,m12⟩;rw [List.length_map,List.length_range] at row;have HG12:=Zh_ (HG11.out.mod m12);obtain ⟨ua2,uc2,rfl⟩:=Zo row;have HRW2:=Zh_ row;clear row m12;go_wp2_with fail;refine (Wh HRW2.out xq HSM2.out).mono ?_;rintro e w13 ⟨rfl,m13⟩;have HG13:=Zh_ (HG12.out.mod m13);clear m13;go_wp2;go_ret;exact ⟨J,HMW.out.trans HG13.out.fr⟩
end
section
open Go.ChangeShapes Go.WideShapes Go.ChangeAt Go.RowKit
variable {w:W} {H:Type} {enc:TypeId×Value->H} {fuel:Nat} {cs:List Value} {x:DataW H×List MemPlace}
theorem Oa:N.cellsOf 60=4:=by kernel_rfl
theorem E4 (h:DataW.trod enc N w 0 (λ _=>true) true fuel 60 cs=I x):∃ p:Int×Int×Int×Int,cs=[U Y p.1,U Y p.2.1,U Y p.2.2.1,U Y p.2.2.2]:=by
 have hl:=R1 underlying60 h;rw [Oa] at hl;obtain ⟨n0,y0,p0,-,-,h0⟩:=Di (i:=0) underlying60 h J J J Mc;obtain ⟨n1,y1,p1,-,-,h1⟩:=Di (i:=1) underlying60 h J J J Mc;obtain ⟨n2,y2,p2,-,-,h2⟩:=Di (i:=2) underlying60 h J J J Mc;obtain ⟨n3,y3,p3,-,-,h3⟩:=Di (i:=3) underlying60 h J J J Mc
 match cs,hl with
 |[a,b,c,d],_=>
  obtain ⟨m0,e0,-⟩:=DataW.trod_int underlying3 h0;obtain ⟨m1,e1,-⟩:=DataW.trod_int underlying3 h1;obtain ⟨m2,e2,-⟩:=DataW.trod_int underlying3 h2;obtain ⟨m3,e3,-⟩:=DataW.trod_int underlying3 h3;simp at e0 e1 e2 e3;exact ⟨(m0,m1,m2,m3),by rw [e0,e1,e2,e3]⟩
theorem open_moves {v:Value} {d:DataW H} {p:List MemPlace} (hv:Value.okWide N w .any 0 57 v) (h:DataW.Trod enc N w 0 (λ _=>true) true 57 v d p) (hs:Sz 57 d):∃ l,Moves w v l:=by
 obtain ⟨a,len,cap,rfl⟩:=okWide_slice underlying57 hv;obtain ⟨fuel,hf⟩:=h;obtain ⟨a',cap',l,e,hn,hb,hc⟩:=Lj (0,0,0,0) underlying57 hf hs (λ (p:Int×Int×Int×Int) c=>c=[U Y p.1,U Y p.2.1,U Y p.2.2.1,U Y p.2.2.2]) (λ n c y hy _=>E4 hy);rw [Oa] at hc;have e':Value.slice a len cap=.slice a' l.length cap':=by simpa [Value.cells] using e
 rw [e'];refine ⟨l,a',cap',J,λ i hi=>?_⟩;obtain ⟨ad,c,rfl,rfl,h3⟩:=hc i hi;obtain ⟨ad0,c0,e0,rfl,h30⟩:=hc 0 (by omega);obtain rfl:=Zo_ e0;have hz:=J1 h30 0 (by simp);rw [Nat.zero_mul,Nat.zero_add] at hz;have k0:=J1 h3 0 (by simp);have k1:=J1 h3 1 (by simp);have k2:=J1 h3 2 (by simp);have k3:=J1 h3 3 (by simp);obtain ⟨e1,e2,e3⟩:=J2 k0 ⟨_,hz⟩;obtain ⟨_,_,e4⟩:=J2 k1 ⟨_,hz⟩;obtain ⟨_,_,e5⟩:=J2 k2 ⟨_,hz⟩;obtain ⟨_,_,e6⟩:=J2 k3 ⟨_,hz⟩;exact ⟨ad.block,ad.off,by rw [<-e1],e2,e3,by rw [<-Nat.add_assoc] at e4;exact e4,by rw [<-Nat.add_assoc] at e5;exact e5,by rw [<-Nat.add_assoc] at e6;exact e6⟩
theorem sz_ofb {ts:List TypeId} {ds:List (DataW H)} {j:Nat} {t:TypeId} {d:DataW H} (hsz:(DataW.weightsEach N ts ds).all (·<=reachBytes)=true) (hj:ts[j]? =I t) (hd:ds[j]? =I d):Sz t d:=by
 intro n hn;have:=List.all_eq_true.1 hsz n (DataW.weights_mem_each hj hd n hn);simpa using this
end
end Go.Proofs.YtkhonmhnchdpkaaGreat
