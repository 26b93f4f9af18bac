/- A part of the proof; no condition. -/
import Derived.Test.YtkhonmhnchdpkaaGreatB18
import Derived.BigRegion
set_option maxRecDepth 100000
set_option maxHeartbeats 40000000
namespace Go.Proofs.YtkhonmhnchdpkaaGreat
open Go.RowKit _root_.Go.Proofs.Tryz
open Go renaming World→W
open Value renaming int→U,slice→L,agg→A_
open IntKind renaming i64→Y
open Obj renaming cells→X
open Option renaming some→I,none→O
open Ending renaming returned→R_
open _root_.Go.Proofs.Tryz renaming prog→N
open List renaming getD_eq_getElem?_getD→G_
section
theorem joined_t (a0 a1 a2 a3 a5 a6 a10 a11 a12 a13 a14 a15 a16 a17 a18 b0 b1 b2 b3 b5 b6 b10 b11 b12 b13 b14 b15 b16 b17 b18:Int) (a4 a7 a8 a9 b4 b7 b8 b9:Value) (o4:b4.oneCell'=true) (o7:b7.oneCell'=true) (o8:b8.oneCell'=true) (o9:b9.oneCell'=true) (w:W):
  Calls N 25 #[A_ #[U Y a0,U Y a1,U Y a2,U Y a3,a4,U Y a5,U Y a6,a7,a8,a9,U Y a10,U Y a11,U Y a12,U Y a13,U Y a14,U Y a15,U Y a16,U Y a17,U Y a18],A_ #[U Y b0,U Y b1,U Y b2,U Y b3,b4,U Y b5,U Y b6,b7,b8,b9,U Y b10,U Y b11,U Y b12,U Y b13,U Y b14,U Y b15,U Y b16,U Y b17,U Y b18]] w
   (λ e w'=>e=R_ (A_ #[U Y a0,U Y a1,U Y a2,U Y b3,b4,U Y b5,U Y b6,b7,b8,b9,U Y b10,U Y b11,U Y b12,U Y a13,U Y a14,U Y b15,U Y a16,U Y a17,U Y a18])/\Ze [] w w'):=by
 have ONE:=Zh_ (show ((#[U Y a0,U Y a1,U Y a2,U Y b3,b4,U Y b5,U Y b6,b7,b8,b9,U Y b10,U Y b11,U Y b12,U Y a13,U Y a14,U Y b15,U Y a16,U Y a17,U Y a18]:Array Value).all (·.oneCell'))=true by simp only [List.all_toArray,List.all_cons,o4,o7,o8,o9];rfl);clear o4 o7 o8 o9;go_enter func25,ntmps25;go_upto_region 1 with fail;obtain ⟨n2,hn2⟩:∃ n,n=w.heap.size:=⟨_,J⟩;obtain ⟨n3,hn3⟩:∃ n,n=n2+1:=⟨_,J⟩;obtain ⟨n4,hn4⟩:∃ n,n=n3+1:=⟨_,J⟩;obtain ⟨w1,hw1⟩:∃ z,z=((w.alloc (X #[U Y a0,U Y a1,U Y a2,U Y a3,a4,U Y a5,U Y a6,a7,a8,a9,U Y a10,U Y a11,U Y a12,U Y a13,U Y a14,U Y a15,U Y a16,U Y a17,U Y a18] 50)).alloc (X #[U Y b0,U Y b1,U Y b2,U Y b3,b4,U Y b5,U Y b6,b7,b8,b9,U Y b10,U Y b11,U Y b12,U Y b13,U Y b14,U Y b15,U Y b16,U Y b17,U Y b18] 50)).alloc (X #[U Y 0,U Y 0,U Y 0,U Y 0,L O 0 0,U Y 0,U Y 0,L O 0 0,L O 0 0,L O 0 0,U Y 0,U Y 0,U Y 0,U Y 0,U Y 0,U Y 0,U Y 0,U Y 0,U Y 0] 50):=⟨_,J⟩;have A2:w1.heap[n2]? =I (X #[U Y a0,U Y a1,U Y a2,U Y a3,a4,U Y a5,U Y a6,a7,a8,a9,U Y a10,U Y a11,U Y a12,U Y a13,U Y a14,U Y a15,U Y a16,U Y a17,U Y a18] 50 (0,0)):=by rw [hw1,hn2];exact Zf _ (Zf _ (Zc _ _))
 have A3:w1.heap[n3]? =I (X #[U Y b0,U Y b1,U Y b2,U Y b3,b4,U Y b5,U Y b6,b7,b8,b9,U Y b10,U Y b11,U Y b12,U Y b13,U Y b14,U Y b15,U Y b16,U Y b17,U Y b18] 50 (0,0)):=by rw [hw1,hn3,hn2];exact Zf _ (Rb _ _ _)
 have A4:w1.heap[n4]? =I (.cells Yd 50 (0,0)):=by
  rw [hw1,hn4,hn3,hn2];have:=Zc ((w.alloc (X #[U Y a0,U Y a1,U Y a2,U Y a3,a4,U Y a5,U Y a6,a7,a8,a9,U Y a10,U Y a11,U Y a12,U Y a13,U Y a14,U Y a15,U Y a16,U Y a17,U Y a18] 50)).alloc (X #[U Y b0,U Y b1,U Y b2,U Y b3,b4,U Y b5,U Y b6,b7,b8,b9,U Y b10,U Y b11,U Y b12,U Y b13,U Y b14,U Y b15,U Y b16,U Y b17,U Y b18] 50)) (X #[U Y 0,U Y 0,U Y 0,U Y 0,L O 0 0,U Y 0,U Y 0,L O 0 0,L O 0 0,L O 0 0,U Y 0,U Y 0,U Y 0,U Y 0,U Y 0,U Y 0,U Y 0,U Y 0,U Y 0] 50);rw [World.size_alloc,World.size_alloc] at this;exact this
 have M1:Ze [] w w1:=by rw [hw1];exact (((Zr_ _ _).alloc _).alloc _).alloc _
 simp only [<-hw1,<-hn2,<-hn3,<-hn4];have x0:=Za (i:=0) A2 J;have x1:=Za (i:=1) A2 J;have x2:=Za (i:=2) A2 J;have x13:=Za (i:=13) A2 J;have x14:=Za (i:=14) A2 J;have x16:=Za (i:=16) A2 J;have x17:=Za (i:=17) A2 J;have x18:=Za (i:=18) A2 J;have y0:=Za (i:=0) A3 J;have z0:=Zb (i:=0) A3;have y1:=Za (i:=1) A3 J;have z1:=Zb (i:=1) A3;have y2:=Za (i:=2) A3 J;have z2:=Zb (i:=2) A3;have y13:=Za (i:=13) A3 J;have z13:=Zb (i:=13) A3;have y14:=Za (i:=14) A3 J;have z14:=Zb (i:=14) A3;have y16:=Za (i:=16) A3 J;have z16:=Zb (i:=16) A3;have y17:=Za (i:=17) A3 J;have z17:=Zb (i:=17) A3;have y18:=Za (i:=18) A3 J;have z18:=Zb (i:=18) A3;have l2:=B9 A2;have l3:=B9 A3;have l4:=B9 A4;have h23:n2≠n3:=by omega
 have h32:n3≠n2:=by omega
 have H34:=Zh_ (show n3≠n4 by omega);have H23:=Zh_ h23;have HA2:=Zh_ A2;have HA3:=Zh_ A3;have HA4:=Zh_ A4;have HM:=Zh_ M1;have HN2:=Zh_ (show w.heap.size<=n2 by omega);have HN3:=Zh_ (show w.heap.size<=n3 by omega);have HN4:=Zh_ (show w.heap.size<=n4 by omega);clear A2 A3 A4 M1 hn2 hn3 hn4 hw1;go_region;go_upto_region 2 with fail;have m2:Ze [n3] w1 (((w1.setCell ⟨n3,0,O⟩ (U Y a0)).setCell ⟨n3,1,O⟩ (U Y a1)).setCell ⟨n3,2,O⟩ (U Y a2)):=(((Zr_ _ _).setCell _ _ (.inl (by simp))).setCell _ _ (.inl (by simp))).setCell _ _ (.inl (by simp));have A3:(((w1.setCell ⟨n3,0,O⟩ (U Y a0)).setCell ⟨n3,1,O⟩ (U Y a1)).setCell ⟨n3,2,O⟩ (U Y a2)).heap[n3]? =I (X #[U Y a0,U Y a1,U Y a2,U Y b3,b4,U Y b5,U Y b6,b7,b8,b9,U Y b10,U Y b11,U Y b12,U Y b13,U Y b14,U Y b15,U Y b16,U Y b17,U Y b18] 50 (0,0)):=Zd _ (Zd _ (Zd _ HA3.out));have A2:=m2.at HA2.out (by simpa using H23.out);have A4:=m2.at HA4.out (by simpa using Ne.symm H34.out);have HM2:=Zh_ m2;clear m2 x0 y0 z0 x1 y1 z1 x2 y2 z2 x13 y13 z13 x14 y14 z14 x16 y16 z16 x17 y17 z17 x18 y18 z18 l2 l3 l4;generalize ((w1.setCell ⟨n3,0,O⟩ (U Y a0)).setCell ⟨n3,1,O⟩ (U Y a1)).setCell ⟨n3,2,O⟩ (U Y a2)=w2 at *
 have x13:=Za (i:=13) A2 J;have x14:=Za (i:=14) A2 J;have x16:=Za (i:=16) A2 J;have x17:=Za (i:=17) A2 J;have x18:=Za (i:=18) A2 J;have y13:=Za (i:=13) A3 J;have z13:=Zb (i:=13) A3;have y14:=Za (i:=14) A3 J;have z14:=Zb (i:=14) A3;have y16:=Za (i:=16) A3 J;have z16:=Zb (i:=16) A3;have y17:=Za (i:=17) A3 J;have z17:=Zb (i:=17) A3;have y18:=Za (i:=18) A3 J;have z18:=Zb (i:=18) A3;have l2:=B9 A2;have l3:=B9 A3;have l4:=B9 A4;have HB2:=Zh_ A2;have HB3:=Zh_ A3;have HB4:=Zh_ A4;clear A2 A3 A4;go_region;go_upto_region 3 with fail;have m3:Ze [n3] w2 (((((w2.setCell ⟨n3,13,O⟩ (U Y a13)).setCell ⟨n3,14,O⟩ (U Y a14)).setCell ⟨n3,16,O⟩ (U Y a16)).setCell ⟨n3,17,O⟩ (U Y a17)).setCell ⟨n3,18,O⟩ (U Y a18)):=(((((Zr_ _ _).setCell _ _ (.inl (by simp))).setCell _ _ (.inl (by simp))).setCell _ _ (.inl (by simp))).setCell _ _ (.inl (by simp))).setCell _ _ (.inl (by simp));have K3:(((((w2.setCell ⟨n3,13,O⟩ (U Y a13)).setCell ⟨n3,14,O⟩ (U Y a14)).setCell ⟨n3,16,O⟩ (U Y a16)).setCell ⟨n3,17,O⟩ (U Y a17)).setCell ⟨n3,18,O⟩ (U Y a18)).heap[n3]? =I (X #[U Y a0,U Y a1,U Y a2,U Y b3,b4,U Y b5,U Y b6,b7,b8,b9,U Y b10,U Y b11,U Y b12,U Y a13,U Y a14,U Y b15,U Y a16,U Y a17,U Y a18] 50 (0,0)):=Zd _ (Zd _ (Zd _ (Zd _ (Zd _ HB3.out))));have K4:=m3.at HB4.out (by simpa using Ne.symm H34.out);generalize ((((w2.setCell ⟨n3,13,O⟩ (U Y a13)).setCell ⟨n3,14,O⟩ (U Y a14)).setCell ⟨n3,16,O⟩ (U Y a16)).setCell ⟨n3,17,O⟩ (U Y a17)).setCell ⟨n3,18,O⟩ (U Y a18)=w3 at *
 have K3:w3.drew.drew.heap[n3]? =I (X #[U Y a0,U Y a1,U Y a2,U Y b3,b4,U Y b5,U Y b6,b7,b8,b9,U Y b10,U Y b11,U Y b12,U Y a13,U Y a14,U Y b15,U Y a16,U Y a17,U Y a18] 50 (0,0)):=K3;have K4:w3.drew.drew.heap[n4]? =I (X #[U Y 0,U Y 0,U Y 0,U Y 0,L O 0 0,U Y 0,U Y 0,L O 0 0,L O 0 0,L O 0 0,U Y 0,U Y 0,U Y 0,U Y 0,U Y 0,U Y 0,U Y 0,U Y 0,U Y 0] 50 (0,0)):=K4;have M4:Ze [] w w3.drew.drew:=(HM.out.then HM2.out (λ k hk=>.inr (by simp at hk;subst hk;exact HN3.out))).then ((m3.drew).drew) (λ k hk=>.inr (by simp at hk;subst hk;exact HN3.out))
 have HM4:=Zh_ M4;have HK3:=Zh_ K3;have HK4:=Zh_ K4;clear M4 K3 K4 m3;generalize w3.drew.drew=w4 at *
 refine wp_region_lit ?_;refine wpList_load_row J 50 _ J n3 J 50 #[U Y a0,U Y a1,U Y a2,U Y b3,b4,U Y b5,U Y b6,b7,b8,b9,U Y b10,U Y b11,U Y b12,U Y a13,U Y a14,U Y b15,U Y a16,U Y a17,U Y a18] (0,0) _ HK3.out underlying50 J (by kernel_rfl) ?_;refine wpList_store_row J 50 _ _ J n4 #[U Y a0,U Y a1,U Y a2,U Y b3,b4,U Y b5,U Y b6,b7,b8,b9,U Y b10,U Y b11,U Y b12,U Y a13,U Y a14,U Y b15,U Y a16,U Y a17,U Y a18] J J 50 _ HK4.out (by kernel_rfl) J ONE.out ?_;go_wp2_with fail;refine bodyPost_ret (v:=A_ #[U Y a0,U Y a1,U Y a2,U Y b3,b4,U Y b5,U Y b6,b7,b8,b9,U Y b10,U Y b11,U Y b12,U Y a13,U Y a14,U Y b15,U Y a16,U Y a17,U Y a18]) (results_cell_row (P:=N) (fn:=Tryz.f25) (p:=4) (ty:=50) J _ _ n4 50 _ (0,0) _ J (Y0 HK4.out) underlying50 J (by kernel_rfl)) J ?_;exact ⟨J,HM4.out.setRow _ _ (.inr HN4.out)⟩
def DX.join (d:DX) (told:DX):DX:={told with ah:=d.ah,fr:=d.fr,til:=d.til}
theorem Lt (d told:Zu) (x y:DX) (o4:y.va.oneCell'=true) (o7:y.vr.oneCell'=true) (o8:y.vw.oneCell'=true) (o9:y.vo.oneCell'=true) (w:W):
  Calls N 25 #[.agg (Z9 d x).toArray,.agg (Z9 told y).toArray] w (λ e w'=>e=R_ (.agg (Z9 (d.join told) (x.join y)).toArray)/\Ze [] w w'):=
 joined_t _ _ _ _ _ _ _ _ _ _ _ _ _ _ _ _ _ _ _ _ _ _ _ _ _ _ _ _ _ _ _ _ _ _ _ _ _ _ o4 o7 o8 o9 w
end
section
variable {c0 c1 t:Int} {x:Zv} {y:Z8}
theorem Jv.ok (h:Jv c0 c1 x):Bo x:=by
 refine ⟨h.p1,h.p8,h.mo,?_,λ hp=>?_,λ hp=>?_⟩
 ·have:=h.ql;have:=h.buf.room;have:=h.qy;omega
 ·obtain ⟨nx,po,h0,h1,e⟩:=h.scan hp;exact ⟨_,e,⟨h0,λ _ _=>by show nx<=c1;omega⟩⟩
 ·obtain ⟨h1,n,h2,h3,e⟩:=h.wr hp;refine ⟨h1,h.ql,?_⟩;rw [e];exact ⟨h2,by show n<=3;omega⟩
theorem Ks.ok (h:Ks c0 c1 t y):Rk y:=
 ⟨h.p1,h.p3,h.mo,h.ci,λ r hr=>by
  obtain ⟨_,hw,o⟩:=h.rd r hr;have:=o.pa3;exact ⟨⟨o.gd,by omega⟩,hw⟩⟩
theorem Yi.yz {s:Zn} (h:Yi s):s.ug:=λ t i ht hc=>by
 obtain ⟨raw,g,hx,_⟩:=h.cur t i ht hc;exact ⟨_,g,hx,J⟩
end
section
variable {w0 w w' w1:W} {lab lab' lab1:Nat->Nat} {P P':EP} {s s':Zn} {t i:Nat} {S qJ:List Nat}
theorem Mm {α:Type} {l:List α} {i:Nat} {d:α} (h:i < l.length):l.set i (l.getD i d)=l:=by
 rw [G_,List.getElem?_eq_getElem h];simp
theorem Ay {α β γ:Type} (f:α->β->γ) (l:List α) (m:List β) (i:Nat) (a:α) (b:β):List.zipWith f (l.set i a) (m.set i b)=(List.zipWith f l m).set i (f a b):=by
 induction l generalizing m i with
 |nil=>simp
 |cons x l ih=>
  cases m with
  |nil=>cases i <;> simp
  |cons y m=>
   cases i with
   |zero=>simp
   |succ i=>simp [ih]
theorem Ik {l:List Zu} {es:List DX} (he:es.length=l.length) {i c:Nat} (hi:i < l.length) (hc:c < 19) {d:Zu} {x:DX} {u:Value} (hd:(Z9 (l.getD i Qi) (es.getD i Qm)).set c u=Z9 d x):
  (Va l es).set (i * 19+c) u=Va (l.set i d) (es.set i x):=by
 unfold Va;rw [flat_set Fa (by simp;omega) hc,N8 he hi,hd,Ay]
theorem Ys.ks (h:Ys w0 w lab P s) (hi:i < s.qe.length):∃ dg dc,P.vd=L (I ⟨dg,0,O⟩) s.qe.length dc/\dg < w.heap.size/\lab dg=5/\w.ownsRow 0 50 19 (L (I ⟨dg,0,O⟩) s.qe.length dc) s.qe.length (Va (s.qe.map (·.raw)) P.es):=by
 have hr:=h.ze.row;have hdl:(s.qe.map (·.raw)).length=s.qe.length:=by simp
 rw [hdl] at hr;obtain ⟨dg,dc,e,l,o⟩:=Nn hr (by omega);rw [e] at hr;exact ⟨dg,dc,e,l,o,hr.row⟩
theorem drew_c (h:Ys w0 w lab P s) (k:Yi s) (ht:t < s.qi.length) (hc:(s.th t).cur=I i):
  Calls N 46 #[Xy P.x,Xy (P.kt t)] w λ e w'=>e=R_ (.tuple #[])/\Jk w0 w lab P s w':=by
 obtain ⟨raw,g,hx,hth,_⟩:=k.cur t i ht hc;have hi:=(List.getElem?_eq_some_iff.1 hx).1;have hgo:s.zi t=I g:=by unfold Zn.zi;rw [hc];simp [hx]
 obtain ⟨u,hu,hcu,_,hG⟩:=k.tx i raw g hx;obtain rfl:=k.one ht hu hc hcu;have G:=h.go t ht;rw [hgo] at G;have K:=h.jn t ht;cases g with
 |rd y=>
  obtain ⟨q,e,_⟩:=G;rw [e] at K;refine (drew_rd K).mono ?_;rintro e w' ⟨rfl,m⟩;exact ⟨J,lab,P,h.quiet m Z3,P3.refl P,Bb.quiet m Z3⟩
 |wr y=>
  have hG:Jv s.c0 s.c1 y:=hG;obtain ⟨q,e,hq,_,_⟩:=G;unfold Qp at K;rw [e] at K;obtain ⟨dg,dc,hvd,hdl,hdo,hrow⟩:=h.ks hi;obtain ⟨tg,tc,hvt,_,tgl,hT⟩:=h.row;have qW:=h.hx;unfold Gg at qW;rw [hvd,hvt] at qW;have hle:=h.ze.len;have hdl':(s.qe.map (·.raw)).length=s.qe.length:=by simp
  have hcell:=hrow.cellAt (i * 19+16) (by omega);rw [Hb hle (by omega) (by omega)] at hcell;refine (drew_wr qW K hq hG.mo (by have:=hG.ar;omega) h.mem (h.cur t i ht hc) hi hdl hcell (hrow.frozenAt _)).mono ?_;rintro e w' ⟨rfl,w1,n,m,rfl⟩;obtain ⟨hst,hgr⟩:=(Yg hrow m).stored (i * 19+16) (U Y n);have m2:Ze [dg] w (w1.setCell ⟨dg,i * 19+16,O⟩ (U Y n)):=(m.qj [dg]).setCell _ _ (.inl (by simp));have hs:Gl [dg] w lab [5]:=by intro j hj _;simp at hj;subst hj;simp [hdo]
  have KK:=h.jo m2 hs (by simp) (by simp) (by simp) Z3;refine ⟨J,lab,{P with es:=P.es.set i {P.es.getD i Qm with ah:=n}},?_,⟨J,J,J,J,J⟩,Bb.of m2 hs (by simp) Z3⟩;refine {hx:=KK.hx (by simp),mem:=KK.mem (by simp),j4:=KK.j4 (by simp),prog:=KK.prog,zu:=KK.zu,jn:=λ u hu=>KK.jn u hu (by simp;omega),lt:=KK.lt,call:=KK.call,cur:=h.cur,go:=λ u hu=>KK.go u hu (by simp;omega),ze:=?_,n1:=h.n1,n8:=h.n8,nt:=h.nt,lx:=KK.lx,la:=KK.la,lb:=KK.lb,lr:=KK.lr,jl:=KK.jl,fr:=KK.fr};refine ⟨by simp [hle],⟨?_,?_⟩,?_⟩
  ·rw [hdl',show P.vd=_ from hvd];have e:(Va (s.qe.map (·.raw)) P.es).set (i * 19+16) (U Y n)=Va (s.qe.map (·.raw)) (P.es.set i {P.es.getD i Qm with ah:=n}):=by
    rw [Ik hle (by omega) (by omega) (d:=(s.qe.map (·.raw)).getD i Qi) (x:={P.es.getD i Qm with ah:=n}) rfl,Mm (by omega)]
   rw [<-e];exact hst
  ·exact h.ze.row.own
  ·intro j hj;have hr:=(h.ze.rows j hj).carry m2 hs (by simp) Z3
   by_cases e:i=j
   ·subst e;rw [show (P.es.set i {P.es.getD i Qm with ah:=n}).getD i Qm={P.es.getD i Qm with ah:=n} by simp [G_,hle,hi]];exact ⟨hr.ra,hr.rr,hr.rw,hr.ro⟩
   ·rw [show (P.es.set i {P.es.getD i Qm with ah:=n}).getD j Qm=P.es.getD j Qm by simp [G_,e]];exact hr
end
end Go.Proofs.YtkhonmhnchdpkaaGreat
