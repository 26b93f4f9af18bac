/- A part of the proof; no condition. -/
import Derived.Test.YtkhonmhnchdpkaaGreatB21
set_option maxRecDepth 100000
set_option maxHeartbeats 40000000
namespace Go.Proofs.YtkhonmhnchdpkaaGreat
open Go.RowKit _root_.Go.Proofs.Tryz
open Go renaming World→W
open Value renaming int→U,pointer→E,slice→L,float→Z,agg→A_
open IntKind renaming i64→Y,u64→Y_
open FloatKind renaming f64→V
open Obj renaming cells→X
open Option renaming some→I,none→O
open Ending renaming returned→R_
open _root_.Go.Proofs.Tryz renaming prog→N
open List renaming getD_eq_getElem?_getD→G_
section
structure Mr (d:Zu):Prop where
 a:d.args.length<=4096
 r:d.reads.length<=4096
 w:d.writes.length<=4096
 o:d.out.length<=4096
theorem Xc.yl (b:Xc):b.all.length=b.order.length:=by unfold Xc.all;simp
theorem Lq {m:Zk} (o:Ym m):m.reads.length<=1024/\m.out.length<=1024:=by
 have h1:=o.out;have h2:=o.xk;have h3:=o.fuel;have h4:=o.reads;split at h4 <;> omega
theorem Jv.we {c0 c1:Int} {x:Zv} (h:Jv c0 c1 x):Mr x.told:=by
 obtain ⟨a,b⟩:=Lq h.mo;refine ⟨?_,?_,?_,?_⟩
 ·show x.args.length<=4096;have:=h.ar;omega
 ·show x.m.reads.length<=4096;omega
 ·show x.m.buf.all.length<=4096;rw [Xc.yl];have:=h.buf.room;have:=h.qy;omega
 ·show x.m.out.length<=4096;omega
theorem Ks.we {c0 c1 t:Int} {y:Z8} (h:Ks c0 c1 t y):Mr y.told:=by
 obtain ⟨a,b⟩:=Lq h.mo;refine ⟨?_,?_,?_,?_⟩
 ·show y.args.length<=4096;have:=h.ar;omega
 ·show y.m.reads.length<=4096;omega
 ·show y.m.buf.all.length<=4096;rw [Xc.yl,h.buf];simp
 ·show y.m.out.length<=4096;omega
theorem Rp.we {c0 c1 t:Int} {g:Qt} (h:Rp c0 c1 t g):Mr g.told:=by
 cases g with
 |wr x=>exact Jv.we h
 |rd y=>exact Ks.we h
theorem Rp.uj {c0 c1 t:Int} {g:Qt} {m:Zh} (k:Bc c0 c1) (hl:(m.ws.length:Int)=Zw c0 c1) (h:Rp c0 c1 t g) (v:Nat):Mr (g.step m.opened v).1.told:=by
 cases g with
 |wr x=>
  have hm:Jv c0 c1 x:=h;rcases Jv.step k hl h v with e|e
  ·show Mr (x.step m.opened v).1.told;rw [e.2];have:=hm.we;exact ⟨this.a,this.r,this.w,this.o⟩
  ·exact e.we
 |rd y=>
  have hm:Ks c0 c1 t y:=h;rcases Ks.step k hl h v with e|e
  ·show Mr (y.step m.opened v).1.told;rw [e.2];have:=hm.we;exact ⟨this.a,this.r,this.w,this.o⟩
  ·exact e.we
def Zn.ym (s:Zn):Prop:=∀ x∈s.qe,Mr x.raw
variable {s:Zn} {t:Nat}
theorem Zn.ym.ready (h:s.ym) (t:Nat):(s.ready t).ym:=by
 unfold Zn.ready;split
 ·intro x hx;have hx:x∈s.qe++[_]:=hx;rw [List.mem_append,List.mem_singleton] at hx;rcases hx with hx|rfl
  ·exact h x hx
  ·exact ⟨by simp [Xj],by simp [Xj],by simp [Xj],by simp [Xj]⟩
 ·exact h
theorem Zn.ym.step (h:s.ym) (k:Yi s) (ht:t < s.qi.length) (v:Nat):(s.step t v).ym:=by
 unfold Zn.step;cases hf:(s.th t).fin with
 |true=>rw [P9 rfl];exact h
 |false=>
  rw [Q9 (by simp)];obtain ⟨hr,hl,i,hc⟩:=k.ready ht hf;have ht':t < (s.ready t).qi.length:=by rw [hl];exact ht
  obtain ⟨raw,g,hx,_⟩:=hr.cur t i ht' hc;rw [Ux hc hx];have hL:=h.ready t;obtain ⟨u,hu,_,_,hG⟩:=hr.tx i raw g hx;have hd:=Rp.uj hr.cfg hr.len hG v;have hraw:=hL _ (List.mem_of_getElem? hx);unfold Zn.zc;split
  ·intro x hx';have hx':x∈(s.ready t).qe.set i ⟨{raw.join (g.step (s.ready t).mem.opened v).1.told with ended:=(s.ready t).steps},O⟩:=hx';rcases List.mem_or_eq_of_mem_set hx' with e|e
   ·exact hL x e
   ·rw [e];exact ⟨hd.a,hd.r,hd.w,hd.o⟩
  ·intro x hx';have hx':x∈(s.ready t).qe.set i ⟨raw,I (g.step (s.ready t).mem.opened v).1⟩:=hx';rcases List.mem_or_eq_of_mem_set hx' with e|e
   ·exact hL x e
   ·rw [e];exact hraw
theorem Zn.ym.view (h:s.ym) (k:Yi s):∀ d∈s.view,Mr d:=by
 intro d hd;unfold Zn.view at hd;obtain ⟨x,hx,rfl⟩:=List.mem_map.1 hd;obtain ⟨raw,g⟩:=x;cases g with
 |none=>exact h _ hx
 |some g=>
  obtain ⟨i,hi⟩:=List.getElem?_of_mem hx;obtain ⟨u,hu,_,_,hG⟩:=k.tx i raw g hi;have:=hG.we;exact ⟨this.a,this.r,this.w,this.o⟩
end
section
theorem Hz (l:List Nat):∀ u∈l.map (Z V),u.oneCell'=true:=by
 intro u hu;simp at hu;obtain ⟨a,_,rfl⟩:=hu;rfl
def CopyP (w:W) (d:Zu) (x:DX) (e:Ending) (w':W):Prop:=∃ y:DX,e=R_ (.agg (Z9 d y).toArray)/\Uu w.heap.size d y w'/\Ze [] w w'/\y.til=x.til
theorem copied_c {w:W} {d:Zu} {x:DX} (hl:Mr d) (ra:w.ownsRow 0 51 1 x.va d.args.length (d.args.map (Z V))) (rr:w.ownsRow 0 53 2 x.vr d.reads.length (Yj d.reads)) (rw':w.ownsRow 0 53 2 x.vw d.writes.length (Yj d.writes)) (ro:w.ownsRow 0 51 1 x.vo d.out.length (d.out.map (Z V))):
  Calls N 27 #[.agg (Z9 d x).toArray] w (CopyP w d x):=by
 obtain ⟨x0,hx0⟩:∃ z,z=x:=⟨_,J⟩;obtain ⟨cs0,hcs0⟩:∃ z,z=(Z9 d x).toArray:=⟨_,J⟩;have hz0:cs0.size=19:=by rw [hcs0];rfl
 rw [<-hcs0];have HL:=Zh_ hl;have RA:=Zh_ ra;have RR:=Zh_ rr;have RW:=Zh_ rw';have RO:=Zh_ ro;have HX0:=Zh_ hx0;have HCS:=Zh_ hcs0;have HZ:=Zh_ hz0;have hbox:∀ w:W,(Instr.box 50 (.agg cs0)).run N w=.ok (E (I ⟨w.heap.size,0,O⟩)) (w.alloc (.cells cs0 50)):=λ w=>by rw [HCS.out];kernel_rfl
 clear hl ra rr rw' ro hx0 hcs0 hz0;go_enter func27,ntmps27;go_upto_region 1 with fail;obtain ⟨n1,hn1⟩:∃ n,n=w.heap.size:=⟨_,J⟩;obtain ⟨n2,hn2⟩:∃ n,n=n1+1:=⟨_,J⟩;obtain ⟨w0,hw0⟩:∃ z,z=(w.alloc (.cells cs0 50)).alloc (X #[U Y 0,U Y 0,U Y 0,U Y 0,L O 0 0,U Y 0,U Y 0,L O 0 0,L O 0 0,L O 0 0,U Y 0,U Y 0,U Y 0,U Y 0,U Y 0,U Y 0,U Y 0,U Y 0,U Y 0] 50):=⟨_,J⟩;have B1:w0.heap[n1]? =I (.cells (Z9 d x0).toArray 50 (0,0)):=by rw [hw0,hn1,HX0.out,<-HCS.out];exact Zf _ (Zc _ _)
 have B2:w0.heap[n2]? =I (.cells Yd 50 (0,0)):=by rw [hw0,hn2,hn1];exact Rb _ _ _
 have M0:Ze [] w w0:=by rw [hw0];exact ((Zr_ _ _).alloc _).alloc _
 simp only [<-hw0,<-hn1,<-hn2];have HB1:=Zh_ B1;have HB2:=Zh_ B2;have HM:=Zh_ M0;have HN1:=Zh_ hn1;have HN2:=Zh_ hn2;have HF:=Zh_ (show x0.til=x.til by rw [HX0.out]);have HVA:=Zh_ (show x0.va=x.va by rw [HX0.out]);have HVR:=Zh_ (show x0.vr=x.vr by rw [HX0.out]);have HVW:=Zh_ (show x0.vw=x.vw by rw [HX0.out]);have HVO:=Zh_ (show x0.vo=x.vo by rw [HX0.out]);have HT:=Zh_ (True.intro);clear B1 B2 M0 hn1 hn2 hw0 hbox;have c0:w0.cell? ⟨n1,4,O⟩=I x0.va:=Za HB1.out J;have l0:=B9 HB1.out;have o0:=Yg RA.out HM.out;rw [<-HVA.out] at o0;refine wp_region_lit ?_;refine Y4 (E (I ⟨n1,4,O⟩)) J (by go_simp) ?_;refine Y4 x0.va J (by go_simp) ?_;refine Yn J (Fw 4 J x0.va _ _ J o0 (Hz _) HL.out.a ?_);intro u0 v0 hu0 hn0 hm0;have b0:=hm0.at HB1.out (by simp);have e0:v0.cell? ⟨n1,4,O⟩=I x0.va:=Za b0 J;have z0:v0.frozen? ⟨n1,4,O⟩=false:=Zb b0;have q0:=Yp hu0;have k0:=B9 b0;have HU:=Zh_ hu0;have HNU:=Zh_ hn0;have HMU:=Zh_ hm0;have HBU:=Zh_ b0;obtain ⟨ua0,uc0,hue0⟩:=Zo hu0;have HUE:=Zh_ hue0;rw [hue0];clear o0 hu0 hn0 hm0 b0 c0 l0 q0 hue0;go_upto_region 2 with fail;rw [<-HUE.out];obtain ⟨x1,hx1⟩:∃ z:DX,z={x0 with va:=u0}:=⟨_,J⟩;have m0:Ze [n1] w0 (v0.setCell ⟨n1,4,O⟩ u0):=(HMU.out.qj [n1]).setCell _ _ (.inl (by simp));have nn0:Ze [n1] v0 (v0.setCell ⟨n1,4,O⟩ u0):=(Zr_ _ _).setCell _ _ (.inl (by simp));have HB1':=Zh_ (show (v0.setCell ⟨n1,4,O⟩ u0).heap[n1]? =I (.cells (Z9 d x1).toArray 50 (0,0)) by rw [hx1];exact Zd _ HBU.out);have HB2':=Zh_ (m0.at HB2.out (by have:=HN2.out;simp;omega));have HM':=Zh_ (HM.out.then m0 (λ j hj=>.inr (by simp at hj;subst hj;rw [HN1.out];exact Nat.le_refl _)));have HF':=Zh_ (show x1.til=x.til by rw [hx1];exact HF.out);have HVR':=Zh_ (show x1.vr=x.vr by rw [hx1];exact HVR.out);have HVW':=Zh_ (show x1.vw=x.vw by rw [hx1];exact HVW.out);have HVO':=Zh_ (show x1.vo=x.vo by rw [hx1];exact HVO.out);have Dva':=Zh_ (show Xq w.heap.size d.args x1.va (v0.setCell ⟨n1,4,O⟩ u0) by rw [hx1];exact Yb.zy ⟨HU.out,λ g hg=>Nat.le_trans HM.out.size (HNU.out g hg)⟩ HBU.out (by decide) nn0);clear HB1 HB2 HM HF HU HNU HBU HUE HMU m0 nn0 hx1 e0 z0 k0 HVA HVR HVW HVO;generalize v0.setCell ⟨n1,4,O⟩ u0=w1 at *
 have HB1:=HB1';have HB2:=HB2';have HM:=HM';have HF:=HF';have Dva:=Dva';have HVR:=HVR';have HVW:=HVW';have HVO:=HVO';clear HB1' HB2' HM' HF' Dva' HVR' HVW' HVO';have c1:w1.cell? ⟨n1,9,O⟩=I x1.vo:=Za HB1.out J;have l1:=B9 HB1.out;have o1:=Yg RO.out HM.out;rw [<-HVO.out] at o1;refine wp_region_lit ?_;refine Y4 (E (I ⟨n1,9,O⟩)) J (by go_simp) ?_;refine Y4 x1.vo J (by go_simp) ?_;refine Yn J (Fw 8 J x1.vo _ _ J o1 (Hz _) HL.out.o ?_);intro u1 v1 hu1 hn1 hm1;have b1:=hm1.at HB1.out (by simp);have e1:v1.cell? ⟨n1,9,O⟩=I x1.vo:=Za b1 J;have z1:v1.frozen? ⟨n1,9,O⟩=false:=Zb b1;have q1:=Yp hu1;have k1:=B9 b1;have HU:=Zh_ hu1;have HNU:=Zh_ hn1;have HMU:=Zh_ hm1;have HBU:=Zh_ b1;obtain ⟨ua1,uc1,hue1⟩:=Zo hu1;have HUE:=Zh_ hue1;rw [hue1];clear o1 hu1 hn1 hm1 b1 c1 l1 q1 hue1;go_upto_region 3 with fail;rw [<-HUE.out];obtain ⟨x2,hx2⟩:∃ z:DX,z={x1 with vo:=u1}:=⟨_,J⟩;have m1:Ze [n1] w1 (v1.setCell ⟨n1,9,O⟩ u1):=(HMU.out.qj [n1]).setCell _ _ (.inl (by simp));have nn1:Ze [n1] v1 (v1.setCell ⟨n1,9,O⟩ u1):=(Zr_ _ _).setCell _ _ (.inl (by simp));have HB1':=Zh_ (show (v1.setCell ⟨n1,9,O⟩ u1).heap[n1]? =I (.cells (Z9 d x2).toArray 50 (0,0)) by rw [hx2];exact Zd _ HBU.out);have HB2':=Zh_ (m1.at HB2.out (by have:=HN2.out;simp;omega));have HM':=Zh_ (HM.out.then m1 (λ j hj=>.inr (by simp at hj;subst hj;rw [HN1.out];exact Nat.le_refl _)));have HF':=Zh_ (show x2.til=x.til by rw [hx2];exact HF.out);have Dva':=Zh_ (show Xq w.heap.size d.args x2.va (v1.setCell ⟨n1,9,O⟩ u1) by rw [hx2];exact (Dva.out.mod HMU.out).zy HBU.out (by decide) nn1);have HVR':=Zh_ (show x2.vr=x.vr by rw [hx2];exact HVR.out);have HVW':=Zh_ (show x2.vw=x.vw by rw [hx2];exact HVW.out);have Dvo':=Zh_ (show Xq w.heap.size d.out x2.vo (v1.setCell ⟨n1,9,O⟩ u1) by rw [hx2];exact Yb.zy ⟨HU.out,λ g hg=>Nat.le_trans HM.out.size (HNU.out g hg)⟩ HBU.out (by decide) nn1);clear HB1 HB2 HM HF HU HNU HBU HUE HMU m1 nn1 hx2 e1 z1 k1 HVO Dva HVR HVW;generalize v1.setCell ⟨n1,9,O⟩ u1=w2 at *
 have HB1:=HB1';have HB2:=HB2';have HM:=HM';have HF:=HF';have Dva:=Dva';have HVR:=HVR';have HVW:=HVW';have Dvo:=Dvo';clear HB1' HB2' HM' HF' Dva' HVR' HVW' Dvo';have c2:w2.cell? ⟨n1,7,O⟩=I x2.vr:=Za HB1.out J;have l2:=B9 HB1.out;have o2:=Yg RR.out HM.out;rw [<-HVR.out] at o2;refine wp_region_lit ?_;refine Y4 (E (I ⟨n1,7,O⟩)) J (by go_simp) ?_;refine Y4 x2.vr J (by go_simp) ?_;refine Yn J (Fv 12 J x2.vr _ _ J o2 (Hk _) HL.out.r ?_);intro u2 v2 hu2 hn2 hm2;have b2:=hm2.at HB1.out (by simp);have e2:v2.cell? ⟨n1,7,O⟩=I x2.vr:=Za b2 J;have z2:v2.frozen? ⟨n1,7,O⟩=false:=Zb b2;have q2:=Yp hu2;have k2:=B9 b2;have HU:=Zh_ hu2;have HNU:=Zh_ hn2;have HMU:=Zh_ hm2;have HBU:=Zh_ b2;obtain ⟨ua2,uc2,hue2⟩:=Zo hu2;have HUE:=Zh_ hue2;rw [hue2];clear o2 hu2 hn2 hm2 b2 c2 l2 q2 hue2;go_upto_region 4 with fail;rw [<-HUE.out];obtain ⟨x3,hx3⟩:∃ z:DX,z={x2 with vr:=u2}:=⟨_,J⟩;have m2:Ze [n1] w2 (v2.setCell ⟨n1,7,O⟩ u2):=(HMU.out.qj [n1]).setCell _ _ (.inl (by simp));have nn2:Ze [n1] v2 (v2.setCell ⟨n1,7,O⟩ u2):=(Zr_ _ _).setCell _ _ (.inl (by simp));have HB1':=Zh_ (show (v2.setCell ⟨n1,7,O⟩ u2).heap[n1]? =I (.cells (Z9 d x3).toArray 50 (0,0)) by rw [hx3];exact Zd _ HBU.out);have HB2':=Zh_ (m2.at HB2.out (by have:=HN2.out;simp;omega));have HM':=Zh_ (HM.out.then m2 (λ j hj=>.inr (by simp at hj;subst hj;rw [HN1.out];exact Nat.le_refl _)));have HF':=Zh_ (show x3.til=x.til by rw [hx3];exact HF.out);have Dva':=Zh_ (show Xq w.heap.size d.args x3.va (v2.setCell ⟨n1,7,O⟩ u2) by rw [hx3];exact (Dva.out.mod HMU.out).zy HBU.out (by decide) nn2);have HVW':=Zh_ (show x3.vw=x.vw by rw [hx3];exact HVW.out);have Dvo':=Zh_ (show Xq w.heap.size d.out x3.vo (v2.setCell ⟨n1,7,O⟩ u2) by rw [hx3];exact (Dvo.out.mod HMU.out).zy HBU.out (by decide) nn2);have Dvr':=Zh_ (show Ql w.heap.size d.reads x3.vr (v2.setCell ⟨n1,7,O⟩ u2) by rw [hx3];exact Yb.zy ⟨HU.out,λ g hg=>Nat.le_trans HM.out.size (HNU.out g hg)⟩ HBU.out (by decide) nn2);clear HB1 HB2 HM HF HU HNU HBU HUE HMU m2 nn2 hx3 e2 z2 k2 HVR Dva HVW Dvo;generalize v2.setCell ⟨n1,7,O⟩ u2=w3 at *
 have HB1:=HB1';have HB2:=HB2';have HM:=HM';have HF:=HF';have Dva:=Dva';have Dvr:=Dvr';have HVW:=HVW';have Dvo:=Dvo';clear HB1' HB2' HM' HF' Dva' Dvr' HVW' Dvo';have c3:w3.cell? ⟨n1,8,O⟩=I x3.vw:=Za HB1.out J;have l3:=B9 HB1.out;have o3:=Yg RW.out HM.out;rw [<-HVW.out] at o3;refine wp_region_lit ?_;refine Y4 (E (I ⟨n1,8,O⟩)) J (by go_simp) ?_;refine Y4 x3.vw J (by go_simp) ?_;refine Yn J (Fv 16 J x3.vw _ _ J o3 (Hk _) HL.out.w ?_);intro u3 v3 hu3 hn3 hm3;have b3:=hm3.at HB1.out (by simp);have e3:v3.cell? ⟨n1,8,O⟩=I x3.vw:=Za b3 J;have z3:v3.frozen? ⟨n1,8,O⟩=false:=Zb b3;have q3:=Yp hu3;have k3:=B9 b3;have HU:=Zh_ hu3;have HNU:=Zh_ hn3;have HMU:=Zh_ hm3;have HBU:=Zh_ b3;obtain ⟨ua3,uc3,hue3⟩:=Zo hu3;have HUE:=Zh_ hue3;rw [hue3];clear o3 hu3 hn3 hm3 b3 c3 l3 q3 hue3;go_upto_region 5 with fail;rw [<-HUE.out];obtain ⟨x4,hx4⟩:∃ z:DX,z={x3 with vw:=u3}:=⟨_,J⟩;have m3:Ze [n1] w3 (v3.setCell ⟨n1,8,O⟩ u3):=(HMU.out.qj [n1]).setCell _ _ (.inl (by simp));have nn3:Ze [n1] v3 (v3.setCell ⟨n1,8,O⟩ u3):=(Zr_ _ _).setCell _ _ (.inl (by simp));have HB1':=Zh_ (show (v3.setCell ⟨n1,8,O⟩ u3).heap[n1]? =I (.cells (Z9 d x4).toArray 50 (0,0)) by rw [hx4];exact Zd _ HBU.out);have HB2':=Zh_ (m3.at HB2.out (by have:=HN2.out;simp;omega));have HM':=Zh_ (HM.out.then m3 (λ j hj=>.inr (by simp at hj;subst hj;rw [HN1.out];exact Nat.le_refl _)));have HF':=Zh_ (show x4.til=x.til by rw [hx4];exact HF.out);have Dva':=Zh_ (show Xq w.heap.size d.args x4.va (v3.setCell ⟨n1,8,O⟩ u3) by rw [hx4];exact (Dva.out.mod HMU.out).zy HBU.out (by decide) nn3);have Dvr':=Zh_ (show Ql w.heap.size d.reads x4.vr (v3.setCell ⟨n1,8,O⟩ u3) by rw [hx4];exact (Dvr.out.mod HMU.out).zy HBU.out (by decide) nn3);have Dvo':=Zh_ (show Xq w.heap.size d.out x4.vo (v3.setCell ⟨n1,8,O⟩ u3) by rw [hx4];exact (Dvo.out.mod HMU.out).zy HBU.out (by decide) nn3);have Dvw':=Zh_ (show Ql w.heap.size d.writes x4.vw (v3.setCell ⟨n1,8,O⟩ u3) by rw [hx4];exact Yb.zy ⟨HU.out,λ g hg=>Nat.le_trans HM.out.size (HNU.out g hg)⟩ HBU.out (by decide) nn3);clear HB1 HB2 HM HF HU HNU HBU HUE HMU m3 nn3 hx4 e3 z3 k3 HVW Dva Dvr Dvo;generalize v3.setCell ⟨n1,8,O⟩ u3=w4 at *
 have HB1:=HB1';have HB2:=HB2';have HM:=HM';have HF:=HF';have Dva:=Dva';have Dvr:=Dvr';have Dvw:=Dvw';have Dvo:=Dvo';clear HB1' HB2' HM' HF' Dva' Dvr' Dvw' Dvo';have ONE:=Zh_ (V8 d x4 (Yp Dva.out.1) (Yp Dvr.out.1) (Yp Dvw.out.1) (Yp Dvo.out.1));refine wp_region_lit ?_;refine wpList_load_row J 50 _ J n1 J 50 (Z9 d x4).toArray (0,0) _ HB1.out underlying50 J (by rw [show (Z9 d x4).toArray.size=19 from J];kernel_rfl) ?_;refine wpList_store_row J 50 _ _ J n2 (Z9 d x4).toArray J J 50 _ HB2.out (by rw [show (Z9 d x4).toArray.size=19 from J];kernel_rfl) J (by rw [Array.all_eq_true_iff_forall_mem];intro u hu;exact ONE.out u (by simpa using hu)) ?_;go_wp2_with fail;refine bodyPost_ret (v:=.agg (Z9 d x4).toArray) (results_cell_row (P:=N) (fn:=Tryz.f27) (p:=2) (ty:=50) J _ _ n2 50 _ (0,0) _ J (Y0 HB2.out) underlying50 J (by rw [show (Z9 d x4).toArray.size=19 from J];kernel_rfl)) J ?_;have mm:Ze [n2] w4 (w4.setRow n2 (Z9 d x4).toArray):=(Zr_ _ _).setRow _ _ (.inl (by simp));exact ⟨x4,J,⟨Dva.out.zy HB2.out (by decide) mm,Dvr.out.zy HB2.out (by decide) mm,Dvw.out.zy HB2.out (by decide) mm,Dvo.out.zy HB2.out (by decide) mm⟩,HM.out.then mm (λ j hj=>.inr (by simp at hj;subst hj;have:=HN1.out;have:=HN2.out;omega)),HF.out⟩
end
section
variable {w0 w w' w1:W} {lab lab' lab1:Nat->Nat} {P P':EP} {s s':Zn} {t i:Nat} {raw:Zu} {g:Qt}
def Jj (P:EP) (s:Zn):Nat->Int->Option Value
 |0=>λ _=>O
 |k+1=>match (s.th k).cur with
  |none=>Jj P s k
  |some i=>Kq (Jj P s k) i (P.gv k)
theorem Ov (k:Yi s) {n:Nat} (hn:n<=s.qi.length) (ht:t < n) (hc:(s.th t).cur=I i):Jj P s n i=I (P.gv t):=by
 induction n with
 |zero=>omega
 |succ n ih=>
  unfold Jj
  by_cases e:t=n
  ·subst e;rw [hc];simp [Kq]
  ·have:=ih (by omega) (by omega);cases hj:(s.th n).cur with
   |none=>exact this
   |some j=>
    show Kq (Jj P s n) j (P.gv n) i=_;unfold Kq
    by_cases e2:(i:Int)=j
    ·have:i=j:=by omega
     subst this;exact absurd (k.one (by omega) (by omega) hc hj) e
    ·rw [Q9 e2];exact this
theorem Ow {n:Nat} (h:∀ t,t < n->(s.th t).cur≠I i):Jj P s n i=O:=by
 induction n with
 |zero=>rfl
 |succ n ih=>
  unfold Jj;have:=ih (λ t ht=>h t (by omega));cases hj:(s.th n).cur with
  |none=>exact this
  |some j=>
   show Kq (Jj P s n) j (P.gv n) i=_;unfold Kq
   by_cases e2:(i:Int)=j
   ·have:i=j:=by omega
    subst this;exact absurd hj (h n (by omega))
   ·rw [Q9 e2];exact this
theorem Yi.under (k:Yi s) (hi:i < s.qe.length):(∃ raw,s.qe[i]? =I ⟨raw,O⟩/\Jj P s s.qi.length i=O)\/∃ raw g t,s.qe[i]? =I ⟨raw,I g⟩/\t < s.qi.length/\(s.th t).cur=I i/\s.zi t=I g/\Ro g/\Jj P s s.qi.length i=I (P.gv t):=by
 have hx:s.qe[i]? =I s.qe[i]:=by simp [hi]
 obtain ⟨x,hq⟩:∃ x,x=s.qe[i]:=⟨_,J⟩;rw [<-hq] at hx;obtain ⟨raw,g⟩:=x;cases g with
 |none=>
  left;refine ⟨raw,hx,Ow (λ t ht hc=>?_)⟩;obtain ⟨r2,g2,x2,_⟩:=k.cur t i ht hc;rw [hx] at x2;simp at x2
 |some g=>
  right;obtain ⟨t,ht,hc,_,hG⟩:=k.tx i raw g hx;refine ⟨raw,g,t,hx,ht,hc,?_,hG.tell,Ov k (Nat.le_refl _) ht hc⟩;unfold Zn.zi;rw [hc];simp [hx]
structure Jp (w:W) (n0:Nat) (l:List Zu) (es:List DX) (v:Value):Prop where
 len:es.length=l.length
 row:w.ownsRow 0 50 19 v l.length (Va l es)
 own:∀ g,v.ownBlock=I g->n0<=g
 rows:∀ k,k < l.length->Uu n0 (l.getD k Qi) (es.getD k Qm) w
theorem Jp.nil (w:W) (n0:Nat):Jp w n0 [] [] (L O 0 0):=
 ⟨rfl,World.ownsRow_nil _ _ _ _,by simp [Value.ownBlock],λ k hk=>absurd hk (by simp)⟩
end
section
variable {w w':W} {l:List Nat} {va vb:Value}
theorem T0 {ty:TypeId} {z n:Nat} {xs:List Value} {a:Option Addr} {c:Nat} (h:w.ownsRow 0 ty z (L a n c) n xs) (_:0 < z):∀ i,i < n * z->∃ g,a=I ⟨g,0,O⟩/\g < w.heap.size/\w.cell? ⟨g,i,O⟩=xs[i]?:=by
 intro i hi;have hn:0 < n:=by
  rcases Nat.eq_zero_or_pos n with h0|h0
  ·subst h0;omega
  ·exact h0
 obtain ⟨g,c',e,_⟩:=Ya h hn;simp only [Value.slice.injEq,true_and] at e;obtain ⟨rfl,rfl⟩:=e;exact ⟨g,J,Yr h J,h.cellAt i hi⟩
theorem Cd (h1:w.ownsRow 0 51 1 va l.length (l.map (Z V))) (h2:w.ownsRow 0 51 1 vb l.length (l.map (Z V))) (hl:l.length<=4096):
  Calls N 13 #[va,vb] w λ e w'=>e=R_ (.bool true)/\Ze [] w w':=by
 obtain ⟨a1,c1,rfl⟩:=Zo h1;obtain ⟨a2,c2,rfl⟩:=Zo h2;have C1:=Zh_ (T0 h1 (by decide));have C2:=Zh_ (T0 h2 (by decide));obtain ⟨n,hn⟩:∃ n,n=l.length:=⟨_,J⟩;rw [<-hn] at C1 C2 hl;rw [<-hn];have HN:=Zh_ hn;clear h1 h2 hn;go_enter func13,ntmps13;go_wp2_with fail
 go_loopw [13] (λ i wx=>∃ k:Nat,k<=n/\i=U Y k/\Ze [] w wx) (λ i _=>n - (intOf i).toNat)
 case atStart=>exact ⟨0,by omega,rfl,Zr_ _ _⟩
 case round=>
  obtain ⟨k,hk,rfl,m⟩:=hrel;have HM:=Zh_ m
  by_cases hlt:k < n
  ·have d4:decide ((k:Int) < (n:Int))=true:=decide_eq_true (by omega);obtain ⟨g1,rfl,l1,c1⟩:=C1.out k (by omega);obtain ⟨g2,rfl,l2,c2⟩:=C2.out k (by omega);obtain ⟨x,hx⟩:∃ x,x=l.getD k 0:=⟨_,J⟩;have hkl:k < l.length:=by rw [<-HN.out];exact hlt
   rw [List.getElem?_map,List.getElem?_eq_getElem hkl] at c1 c2;rw [G_,List.getElem?_eq_getElem hkl] at hx;simp only [Option.getD_some] at hx;simp only [Option.map_some] at c1 c2;rw [<-hx] at c1 c2;replace c1:=Z5 m l1 (by simp) c1;replace c2:=Z5 m l2 (by simp) c2;have r1:=Sf x;clear m hx hkl l1 l2;go_upto_region 6 with fail;go_quiet (fail);go_wp2_with fail;go_roundw
   case rel=>exact ⟨k+1,by omega,by go_num,HM.out.drewN _⟩
   case measure=>simp [intOf];omega
  ·have d4:decide ((k:Int) < (n:Int))=false:=D9 (by omega);clear m;go_wp2;go_ret;exact ⟨J,HM.out⟩
end
section
variable {w0 w w' w1:W} {lab lab' lab1:Nat->Nat} {P P':EP} {s s':Zn} {t i:Nat} {raw:Zu} {g:Qt}
def Tn (w:W) (d:Zu) (y:DX):Prop:=w.ownsRow 0 51 1 y.va d.args.length (d.args.map (Z V))/\w.ownsRow 0 53 2 y.vr d.reads.length (Yj d.reads)/\w.ownsRow 0 53 2 y.vw d.writes.length (Yj d.writes)/\w.ownsRow 0 51 1 y.vo d.out.length (d.out.map (Z V))
theorem Tn.mod {d:Zu} {y:DX} (h:Tn w d y) (m:Ze [] w w'):Tn w' d y:=⟨Yg h.1 m,Yg h.2.1 m,Yg h.2.2.1 m,Yg h.2.2.2 m⟩
theorem Yb.j8 {n0 z n k:Nat} {ty:TypeId} {xs ys:List Value} {v u:Value} (h:Yb n0 ty z n xs v w) (ht:ty≠50) (hu:w.ownsRow 0 50 19 u k ys) (m:Ze u.ownBlock.toList w w'):Yb n0 ty z n xs v w':=by
 rcases hu.2 with ⟨e,_⟩|⟨g,cap,cur,e,_,hg,_⟩
 ·rw [e] at m;exact h.mod (by simpa [Value.ownBlock] using m)
 ·rw [e] at m;exact h.zy hg ht (by simpa [Value.ownBlock] using m)
theorem Uu.j8 {n0 k:Nat} {ys:List Value} {u:Value} {d:Zu} {y:DX} (h:Uu n0 d y w) (hu:w.ownsRow 0 50 19 u k ys) (m:Ze u.ownBlock.toList w w'):Uu n0 d y w':=
 ⟨h.1.j8 (by decide) hu m,h.2.1.j8 (by decide) hu m,h.2.2.1.j8 (by decide) hu m,h.2.2.2.j8 (by decide) hu m⟩
theorem Uu.qj {n0 n1:Nat} {d:Zu} {y:DX} (h:Uu n1 d y w) (hn:n0<=n1):Uu n0 d y w:=⟨Yb.qj h.1 hn,Yb.qj h.2.1 hn,Yb.qj h.2.2.1 hn,Yb.qj h.2.2.2 hn⟩
theorem Jp.push {n0:Nat} {l:List Zu} {es:List DX} {u v:Value} {d:Zu} {y:DX} {wa:W} (h:Jp w n0 l es u) (m:Ze [] w wa) (hy:Uu n0 d y wa) (hn:n0<=wa.heap.size) (hg:wa.grownBy w' u.ownBlock)
  (ho:w'.ownsRow 0 50 19 v (l.length+1) (Va l es++Z9 d y)) (hat:v.ownBlock=u.ownBlock\/v.ownBlock=I wa.heap.size):Jp w' n0 (l++[d]) (es++[y]) v:=by
 have hr:=Yg h.row m;have mg:Ze u.ownBlock.toList wa w':=(Zr_ _ _).grown hg (λ g hg=>.inl (Option.mem_toList.2 hg));refine ⟨by simp [h.len],?_,λ g hgv=>?_,λ k hk=>?_⟩
 ·rw [Hd _ _ _ _ h.len,List.length_append];exact ho
 ·rcases hat with e|e
  ·rw [e] at hgv;exact h.own g hgv
  ·rw [e] at hgv;simp at hgv;omega
 ·have hk':k < l.length\/k=l.length:=by simp at hk;omega
  rcases hk' with hk'|rfl
  ·rw [Vx hk',Vx (by rw [h.len];exact hk')];exact ((h.rows k hk').mod m).j8 hr mg
  ·rw [Je];have e:=Je (l:=es) (x:=y) (d:=Qm);rw [h.len] at e;rw [e];exact hy.j8 hr mg
theorem Gv {P:Program} {K:Value->W->Prop} {v:Value} {w:W} (h:K v w):J4 P K (.ok (.value v) w):=h
theorem zero85 (w:W):(zeroValue 85).run N w=.ok .nilIface w:=by kernel_rfl
def DeedsP (w:W) (l:List Zu) (e:Ending) (w':W):Prop:=∃ u es,e=R_ u/\Jp w' w.heap.size l es u/\Ze [] w w'
def Dm (pk mb ix qk:Nat) (ti:TypeId):Nat->Value->W->Prop
 |0,v,_=>v=.map (I mb)
 |1,v,_=>v=E (I ⟨pk,0,O⟩)
 |2,v,_=>v=E (I ⟨pk,0,O⟩)
 |3,v,_=>v=E (I ⟨pk,3,O⟩)
 |4,v,_=>v=U Y ix
 |5,v,_=>v=E (I ⟨pk,0,O⟩)
 |6,v,_=>v=E (I ⟨pk,0,O⟩)
 |7,v,_=>v=E (I ⟨pk,2,O⟩)
 |8,v,_=>v=.iface ti (E (I ⟨qk,0,O⟩))
 |_,_,_=>True
theorem Ae (pk mb ix qk:Nat) (ti:TypeId) (i:Nat) (v:Value) (w w':W) (h:Dm pk mb ix qk ti i v w) (_:Ze [] w w'):Dm pk mb ix qk ti i v w':=by
 match i,h with
 |0,h=>exact h
 |1,h=>exact h
 |2,h=>exact h
 |3,h=>exact h
 |4,h=>exact h
 |5,h=>exact h
 |6,h=>exact h
 |7,h=>exact h
 |8,h=>exact h
 |i+9,h=>trivial
theorem L1 (pk mb ix qk:Nat) (ti:TypeId) (i:Nat) (h:9<=i) (v:Value) (w:W):Dm pk mb ix qk ti i v w:=by
 match i,h with
 |j+9,_=>trivial
def Ha (_ n0 qk:Nat) (ti:TypeId) (raw told:Zu) (dx:DX):Nat->Value->W->Prop
 |0,v,_=>v=.agg (Z9 raw dx).toArray
 |1,v,_=>v=.iface ti (E (I ⟨qk,0,O⟩))
 |2,v,w=>Mg n0 told v w
 |3,v,w=>Mi n0 raw dx told v w
 |_,_,_=>True
theorem L2 (n8 n0 qk:Nat) (ti:TypeId) (raw told:Zu) (dx:DX) (i:Nat) (v:Value) (w w':W) (h:Ha n8 n0 qk ti raw told dx i v w) (m:Ze [] w w'):Ha n8 n0 qk ti raw told dx i v w':=by
 match i,h with
 |0,h=>exact h
 |1,h=>exact h
 |2,h=>exact h.mod m
 |3,h=>exact h.mod m
 |i+4,h=>trivial
theorem Ce (n8 n0 qk:Nat) (ti:TypeId) (raw told:Zu) (dx:DX) (i:Nat) (h:4<=i) (v:Value) (w:W):Ha n8 n0 qk ti raw told dx i v w:=by
 match i,h with
 |j+4,_=>trivial
theorem vu (h:Ys w0 w lab P s) (k:Yi s) (hL:s.ym) (hn:s.qe.length < 1000000000):Calls N 10 #[Xy P.x] w (DeedsP w s.view):=by
 obtain ⟨tg,tc,hvt,_,tgl,hT⟩:=h.row;have x13:=(h.xc 13 (u:=P.vt) J).1;have x14:=(h.xc 14 (u:=P.vd) J).1;have hvd:=h.ze.row.row;have hdl:(s.qe.map (·.raw)).length=s.qe.length:=by simp
 rw [hdl] at hvd;obtain ⟨ad,dc,hd⟩:=Zo hvd;rw [hd] at x14;rw [hvt] at x13;have lx:=h.uh;obtain ⟨nt,hnt⟩:∃ z,z=s.qi.length:=⟨_,J⟩;obtain ⟨nd,hnd⟩:∃ z,z=s.qe.length:=⟨_,J⟩;obtain ⟨px,hpx⟩:∃ z,z=P.x:=⟨_,J⟩;rw [<-hnt,<-hpx] at x13;rw [<-hnd,<-hpx] at x14;rw [<-hpx] at lx;unfold Xy;rw [<-hpx];have hmk:=λ w=>run_makeMap (P:=N) 82 w;have H:=Zh_ h;have HK:=Zh_ k;have HLN:=Zh_ hL;have HN:=Zh_ hn;have HNT:=Zh_ hnt;have HND:=Zh_ hnd;have HPX:=Zh_ hpx;have HD:=Zh_ hd;have HT:=Zh_ hT;have HVD:=Zh_ hvd;have h8:nt<=8:=by rw [hnt];exact h.n8
 have hnb:nd < 1000000000:=by rw [hnd];exact hn
 clear h k hL hn hvt hnt hnd hpx hd hvd hdl hT;go_enter func10,ntmps10;go_wp2_with fail;obtain ⟨mb,hmb⟩:∃ z,z=w.heap.size:=⟨_,J⟩;rw [<-hmb];have HMB:=Zh_ hmb;have hF0:=Zh_ (show Vg (w.alloc (.map #[] 0)) mb 0 (Jj P s 0) by rw [hmb];exact Vg.made w);have hM0:=Zh_ (show Ze [] w (w.alloc (.map #[] 0)) from (Zr_ _ _).alloc _);clear hmb hmk
 go_loopw [17] (λ i wr=>∃ q:Nat,q<=nt/\i=U Y q/\(∃ n,n<=q/\Vg wr mb n (Jj P s q))/\Ze [] w wr) (λ i _=>nt - (intOf i).toNat)
 case atStart=>exact ⟨0,by omega,rfl,⟨0,by omega,hF0.out⟩,hM0.out⟩
 case round=>
  obtain ⟨q,hq,rfl,⟨n,hn,hF⟩,m⟩:=hrel
  by_cases hlt:q < nt
  ·have d4:decide ((q:Int) < nt)=true:=decide_eq_true (by omega);have hqt:q < s.qi.length:=by rw [<-HNT.out];exact hlt
   have hE:=H.out.quiet m Z3;have ct:=Z5 m tgl (by simp) (HT.out q hqt);unfold Xy at ct;obtain ⟨pk,hpk⟩:∃ z,z=P.kt q:=⟨_,J⟩;rw [<-hpk] at ct;have c2:=(hE.kc hqt 2 (u:=P.gv q) J).1;have c3:=(hE.kc hqt 3 (u:=U Y (P.ai q)) J).1;have lk:=hE.klt hqt;rw [<-hpk] at c2 c3 lk;have G:=hE.go q hqt;have HF:=Zh_ hF;have HM:=Zh_ m;have HPK:=Zh_ hpk;clear hF m hpk hE;obtain ⟨hc,hgo⟩|⟨ix,x,g,hc,_,_,hgo⟩:=HK.out.yz.zi hqt
   ·have hg:P.gv q=.nilIface:=by rw [hgo] at G;exact G
    rw [hg] at c2;have e:Jj P s (q+1)=Jj P s q:=by
     show (match (s.th q).cur with|none=>Jj P s q|some i=>Kq (Jj P s q) i (P.gv q))=_;rw [hc]
    have HE:=Zh_ e;clear G hgo hc hg e hqt;go_wp2_with fail;go_roundw
    case rel=>exact ⟨q+1,by omega,by go_num,⟨n,by omega,by rw [HE.out];exact HF.out⟩,HM.out⟩
    case measure=>simp [intOf];omega
   ·have hai:P.ai q=ix:=H.out.cur q ix hqt hc;rw [hai] at c3;rw [hgo] at G;obtain ⟨ti,qk,hg⟩:∃ ti qk,P.gv q=.iface ti (E (I ⟨qk,0,O⟩)):=by
     cases g with
     |wr y=>obtain ⟨z,h,_⟩:=G;exact ⟨_,_,h⟩
     |rd y=>obtain ⟨z,h,_⟩:=G;exact ⟨_,_,h⟩
    rw [hg] at c2;have hix:ix < 1000000000:=by
     obtain ⟨r2,g2,x2,_⟩:=HK.out.cur q ix hqt hc;have:=(List.getElem?_eq_some_iff.1 x2).1;have:=HN.out;omega
    have e:Jj P s (q+1)=Kq (Jj P s q) ix (.iface ti (E (I ⟨qk,0,O⟩))):=by
     show (match (s.th q).cur with|none=>Jj P s q|some i=>Kq (Jj P s q) i (P.gv q))=_;rw [hc,hg]
    have HE:=Zh_ e;have HIX:=Zh_ hix;have HC6:=Zh_ (show ∀ wx,Ze [] wr.drew wx->wx.cell? ⟨pk,3,O⟩=I (U Y ix)/\wx.cell? ⟨pk,2,O⟩=I (.iface ti (E (I ⟨qk,0,O⟩))) from
     λ wx hR=>⟨Z5 (((Zr_ _ wr).drew).trans hR) lk (by simp) c3,Z5 (((Zr_ _ wr).drew).trans hR) lk (by simp) c2⟩)
    clear G hgo hc hg e hqt hai hix;go_upto_region 6 with fail;refine Yt (by kernel_rfl) 9 (by rfl) (λ x y=>Ze [] x y) (Dm pk mb ix qk ti) (by kernel_rfl) (by rfl) (by kernel_rfl) (Ae pk mb ix qk ti) (λ a=>Zr_ _ _) (λ a b c h k=>h.trans k) ?_ ?_ ?_
    ·exact λ i v w' hv o ho hd=>Vi (m:=9) (by kernel_rfl) (L1 pk mb ix qk ti) ho hd
    ·intro i o hi ho
     match i,hi with
     |0,_=>obtain rfl:=Zo_ ho;intro a wx hR hF hO;have e3:=To_ hO 3 (.map (I mb));clear hF hO;go_simp;exact ⟨Zr_ _ _,J⟩
     |1,_=>obtain rfl:=Zo_ ho;intro a wx hR hF hO;have e5:=To_ hO 5 (E (I ⟨pk,0,O⟩));clear hF hO;go_simp;exact ⟨Zr_ _ _,J⟩
     |2,_=>obtain rfl:=Zo_ ho;intro a wx hR hF hO;have e27:=Tf_ hF 27 1 (E (I ⟨pk,0,O⟩));clear hF hO;go_simp;exact ⟨Zr_ _ _,J⟩
     |3,_=>obtain rfl:=Zo_ ho;intro a wx hR hF hO;have e28:=Tf_ hF 28 2 (E (I ⟨pk,0,O⟩));clear hF hO;go_simp;exact ⟨Zr_ _ _,J⟩
     |4,_=>obtain rfl:=Zo_ ho;intro a wx hR hF hO;have e29:=Tf_ hF 29 3 (E (I ⟨pk,3,O⟩));clear hF hO;obtain ⟨c3,c2⟩:=HC6.out wx hR;go_simp;exact ⟨Zr_ _ _,J⟩
     |5,_=>obtain rfl:=Zo_ ho;intro a wx hR hF hO;have e5:=To_ hO 5 (E (I ⟨pk,0,O⟩));clear hF hO;go_simp;exact ⟨Zr_ _ _,J⟩
     |6,_=>obtain rfl:=Zo_ ho;intro a wx hR hF hO;have e31:=Tf_ hF 31 5 (E (I ⟨pk,0,O⟩));clear hF hO;go_simp;exact ⟨Zr_ _ _,J⟩
     |7,_=>obtain rfl:=Zo_ ho;intro a wx hR hF hO;have e32:=Tf_ hF 32 6 (E (I ⟨pk,0,O⟩));clear hF hO;go_simp;exact ⟨Zr_ _ _,J⟩
     |8,_=>obtain rfl:=Zo_ ho;intro a wx hR hF hO;have e33:=Tf_ hF 33 7 (E (I ⟨pk,2,O⟩));clear hF hO;obtain ⟨c3,c2⟩:=HC6.out wx hR;go_simp;exact ⟨Zr_ _ _,J⟩
     |j+9,hh=>omega
    ·intro vs w5 hR hv;have m5:Ze [] wr w5:=((Zr_ _ wr).drew).trans hR;have e26:vs 0=.map (I mb):=hv 0 (by decide);have e30:vs 4=U Y ix:=hv 4 (by decide);have e34:vs 8=.iface ti (E (I ⟨qk,0,O⟩)):=hv 8 (by decide);obtain ⟨w6,hup,F6,D6⟩:=(HF.out.mod m5 (by simp)).set (t:=82) (e:=85) underlying82 (by unfold maxLen;omega) (k:=(ix:Int)) (by
      show (decide (IntKind.i64.min<=(ix:Int))&&decide ((ix:Int)<=IntKind.i64.max))=true;have e1:IntKind.i64.min=-9223372036854775808:=by decide
      have e2:IntKind.i64.max=9223372036854775807:=by decide
      have:=HIX.out;rw [e1,e2];simp;omega) (.iface ti (E (I ⟨qk,0,O⟩)))
     have HF6:=Zh_ (F6.mono (n':=q+1) (by split <;> omega));have HD6:=Zh_ ((HM.out.trans m5).then D6 (λ j hj=>.inr (by simp at hj;subst hj;rw [HMB.out];exact Nat.le_refl _)));clear hv hR m5 F6 D6;simp only [Yx,List.take_succ_cons,List.take_zero,Act.put,e26,e30,e34];go_simp;go_wp2_with fail;go_roundw
     case rel=>exact ⟨q+1,by omega,by go_num,⟨q+1,by omega,by rw [HE.out];exact HF6.out⟩,HD6.out⟩
     case measure=>simp [intOf];omega
  ·have d4:decide ((q:Int) < nt)=false:=D9 (by omega);obtain rfl:q=nt:=by omega
   have y14:=Z5 m lx (by simp) x14;have ly:px < wr.heap.size:=Nat.lt_of_lt_of_le lx m.size;have HF1:=Zh_ hF;have HM1:=Zh_ m;clear hF m x13 x14 hF0 hM0;go_wp2_with fail
   go_loopw [41,6] (λ i o wx=>∃ z:Nat,z<=nd/\i=U Y z/\(∃ es,Jp wx w.heap.size (s.view.take z) es o)/\Ze [] w wx/\Vg wx mb n (Jj P s q)) (λ i o _=>nd - (intOf i).toNat)
   case atStart=>exact ⟨0,by omega,rfl,⟨[],Jp.nil _ _⟩,HM1.out,HF1.out⟩
   case round=>
    obtain ⟨z,hz,rfl,hO,m,hF⟩:=hrel
    by_cases hlt:z < nd
    ·obtain ⟨es,hO⟩:=hO;have d5:decide ((z:Int) < nd)=true:=decide_eq_true (by omega);have hE:=H.out.quiet m Z3;have hzt:z < s.qe.length:=by rw [<-HND.out];exact hlt
     obtain ⟨dg,dc2,hvd,hdl,_,hrow⟩:=hE.ks hzt;have had:=HD.out.symm.trans hvd;simp only [Value.slice.injEq,true_and] at had;obtain ⟨rfl,rfl⟩:=had;obtain ⟨raw,hraw⟩:∃ r,r=(s.qe.map (·.raw)).getD z Qi:=⟨_,J⟩;obtain ⟨dx,hdx⟩:∃ r,r=P.es.getD z Qm:=⟨_,J⟩;have hle:=hE.ze.len;have hcells:∀ j v,(Z9 raw dx).toArray.toList[j]? =I v->wr.cell? ((⟨dg,z * 19,O⟩:Addr).add j)=I v:=by
      intro j v hj;rw [Uz];have hj19:j < 19:=by
       have:=(List.getElem?_eq_some_iff.1 hj).1;simpa [Z9] using this
      rw [hrow.cellAt (z * 19+j) (by omega),Hb hle (by simp;omega) hj19,<-hraw,<-hdx];simpa using hj
     obtain ⟨zt,hzt'⟩:∃ r,r=s.qe.length:=⟨_,J⟩;obtain ⟨cs,hcs⟩:∃ r,r=(Z9 raw dx).toArray:=⟨_,J⟩;have hrx:=hE.ze.rows z (by simp;exact hzt);rw [<-hraw,<-hdx] at hrx;have hone:∀ u∈cs.toList,u.oneCell'=true:=by rw [hcs];exact λ u hu=>V8 raw dx (Yp hrx.ra.row) (Yp hrx.rr.row) (Yp hrx.rw.row) (Yp hrx.ro.row) u (by simpa using hu)
     have hcz:cs.size=19:=by rw [hcs];rfl
     rw [<-hcs] at hcells;have HO:=Zh_ hO;have HM:=Zh_ m;have HF:=Zh_ hF;have HRAW:=Zh_ hraw;have HDX:=Zh_ hdx;have HCS:=Zh_ hcs;have HCZ:=Zh_ hcz;have HONE:=Zh_ hone;have HCE:=Zh_ hcells;have HZT:=Zh_ hzt;have HRX:=Zh_ (show Tn wr raw dx from ⟨hrx.ra.row,hrx.rr.row,hrx.rw.row,hrx.ro.row⟩);clear hO m hF hE hzt hrow hraw hdx hle hcells hcs hone hcz hrx hzt' hvd hdl;obtain ⟨n8,hn8⟩:∃ r,r=wr.heap.size:=⟨_,J⟩;go_upto_region 11 with fail;refine wp_region_lit ?_;refine Y4 (U Y z) J (by go_simp) ?_;refine Y4 (E (I ⟨dg,z * 19,O⟩)) J (by go_simp) ?_;refine Kt J 50 _ J ⟨dg,z * 19,O⟩ J cs _ HCE.out underlying50 J (by rw [HCZ.out];kernel_rfl) ?_;refine Yn J ?_;go_simp;refine Gv ?_;have B8:(wr.alloc (X #[U Y 0,U Y 0,U Y 0,U Y 0,L O 0 0,U Y 0,U Y 0,L O 0 0,L O 0 0,L O 0 0,U Y 0,U Y 0,U Y 0,U Y 0,U Y 0,U Y 0,U Y 0,U Y 0,U Y 0] 50)).heap[n8]? =I (.cells Yd 50 (0,0)):=by rw [hn8];exact Zc _ _
     rw [<-hn8];have HB8:=Zh_ B8;have HN8:=Zh_ hn8;have HM8:=Zh_ (show Ze [] wr (wr.alloc (X #[U Y 0,U Y 0,U Y 0,U Y 0,L O 0 0,U Y 0,U Y 0,L O 0 0,L O 0 0,L O 0 0,U Y 0,U Y 0,U Y 0,U Y 0,U Y 0,U Y 0,U Y 0,U Y 0,U Y 0] 50)) from (Zr_ _ _).alloc _);clear B8 hn8;generalize wr.alloc (X #[U Y 0,U Y 0,U Y 0,U Y 0,L O 0 0,U Y 0,U Y 0,L O 0 0,L O 0 0,L O 0 0,U Y 0,U Y 0,U Y 0,U Y 0,U Y 0,U Y 0,U Y 0,U Y 0,U Y 0] 50)=w8 at *
     refine Y4 (U Y z) J (by go_simp) ?_;refine wpList_store_row J 50 _ _ J n8 cs J J 50 _ HB8.out (by rw [HCZ.out];kernel_rfl) (by rw [HCZ.out];rfl) (by rw [Array.all_eq_true_iff_forall_mem];intro u hu;exact HONE.out u (by simpa using hu)) ?_;have B9:(w8.setRow n8 cs).heap[n8]? =I (.cells cs 50 (0,0)):=Y0 HB8.out;have m89:Ze [] wr (w8.setRow n8 cs):=HM8.out.setRow _ _ (.inr (by rw [HN8.out];exact Nat.le_refl _));have HB9:=Zh_ B9;have HM9:=Zh_ m89;clear B9 m89 HB8 HM8;generalize w8.setRow n8 cs=w9 at *
     obtain ⟨ov,hov⟩:∃ r,r=Jj P s q z:=⟨_,J⟩;have hl:=((HF.out.mod HM9.out (by simp)).look (t:=82) (e:=85) underlying82 zero85 (k:=(z:Int)) (by
       show (decide (IntKind.i64.min<=(z:Int))&&decide ((z:Int)<=IntKind.i64.max))=true;have e1:IntKind.i64.min=-9223372036854775808:=by decide
       have e2:IntKind.i64.max=9223372036854775807:=by decide
       rw [e1,e2];simp;omega))
     rw [<-hov] at hl;have HOV:=Zh_ hov;clear hov;obtain ⟨dv,hdv⟩:∃ r,r=s.view.getD z Qi:=⟨_,J⟩;have HDV:=Zh_ hdv;have HL:=Zh_ hl;clear hdv;go_upto_if 52 with fail;clear hl
     go_cut [] (λ wx=>∃ y,wx.heap[n8]? =I (.cells (Z9 dv y).toArray 50 (0,0))/\Tn wx dv y/\Ze [] wr wx)
     case first=>
      have hview:∀ x,s.qe[z]? =I x->dv=x.deed:=by
       intro x hx;rw [HDV.out];unfold Zn.view;simp [G_,hx]
      have hrawe:∀ x,s.qe[z]? =I x->raw=x.raw:=by
       intro x hx;rw [HRAW.out];simp [G_,hx]
      rcases HK.out.under (P:=P) HZT.out with ⟨r0,hx,hu⟩|⟨r0,g,t,hx,ht,hc,hgo,hT',hu⟩
      ·rw [<-HNT.out,<-HOV.out] at hu;subst hu;have e1:=hview _ hx;have e2:=hrawe _ hx;have HE1:=Zh_ (show dv=raw by rw [e1,e2];rfl);clear e1 e2 hx hview hrawe;go_wp2_with fail;go_meet;exact ⟨dx,by rw [HE1.out,<-HCS.out];exact HB9.out,by rw [HE1.out];exact HRX.out.mod HM9.out,HM9.out⟩
      ·rw [<-HNT.out,<-HOV.out] at hu;have e2:=hrawe _ hx;have hE9:=(H.out.quiet HM.out Z3).quiet HM9.out Z3;obtain ⟨ti,qk,f,egv,hme1,hcf1,hDC⟩:=hE9.oh ht hgo hT';rw [egv] at hu;subst hu;obtain ⟨told,htold⟩:∃ r,r=g.told:=⟨_,J⟩;have HE1:=Zh_ (show dv=raw.join told by rw [hview _ hx,e2,htold];rfl);obtain ⟨n0,hn0⟩:∃ r,r=w9.heap.size:=⟨_,J⟩;have HN0:=Zh_ (show n0<=w9.drew.heap.size from Nat.le_of_eq hn0);have HN09:=Zh_ hn0;have HB8:=Zh_ (show ∀ wx,Ze [] w9.drew wx->wx.heap[n8]? =I (.cells (Z9 raw dx).toArray 50 (0,0)) from λ wx hR=>by rw [<-HCS.out];exact (((Zr_ _ w9).drew).trans hR).at HB9.out (by simp));have HDC:=Zh_ (show ∀ wx,Ze [] w9.drew wx->Calls N f #[E (I ⟨qk,0,O⟩)] wx (Av wx told) from λ wx hR=>by rw [htold];exact hDC wx (((Zr_ _ w9).drew).trans hR));have HE9:=Zh_ hE9;clear e2 hx hview hrawe hE9 hDC htold hgo hT' ht hc egv hn0;go_upto_region 14 with fail
       go_cut [] (λ wx=>∃ y,wx.heap[n8]? =I (.cells (Z9 dv y).toArray 50 (0,0))/\Tn wx dv y/\Ze [] wr wx)
       case first=>
        refine Yt (by kernel_rfl) 4 (by rfl) (λ x y=>Ze [] x y) (Ha n8 n0 qk ti raw told dx) (by kernel_rfl) (by rfl) (by kernel_rfl) (L2 n8 n0 qk ti raw told dx) (λ a=>Zr_ _ _) (λ a b c h k=>h.trans k) ?_ ?_ ?_
        ·exact λ i v w' hv o ho hd=>Vi (m:=4) (by kernel_rfl) (Ce n8 n0 qk ti raw told dx) ho hd
        ·intro i o hi ho
         match i,hi with
         |0,_=>obtain rfl:=Zo_ ho;intro a wx hR hF hO;have f8:a.eval (.tmp 8)=E (I ⟨n8,0,O⟩):=hO 8 (by kernel_rfl) (Zm (by kernel_rfl));have e8:=Tv_ f8;clear hF hO;exact Jd 50 _ J n8 f8 50 (Z9 raw dx).toArray (0,0) _ (HB8.out wx hR) underlying50 J (by rw [show (Z9 raw dx).toArray.size=19 from J];kernel_rfl) ⟨Zr_ _ _,J⟩
         |1,_=>obtain rfl:=Zo_ ho;intro a wx hR hF hO;have e9:=To_ hO 9 (.iface ti (E (I ⟨qk,0,O⟩)));clear hF hO;go_simp;exact ⟨Zr_ _ _,J⟩
         |2,_=>obtain rfl:=Zo_ ho;intro a wx hR hF hO;have e54:=Tf_ hF 54 1 (.iface ti (E (I ⟨qk,0,O⟩)));clear hF hO;have hme:=hme1;have hcf:=hcf1;go_simp;refine Calls.mono (HDC.out wx hR) ?_;rintro e w' ⟨y,rfl,a1,a2,a3,a4,m⟩;have le:=Nat.le_trans HN0.out hR.size;exact ⟨_,J,m,y,J,a1.qj le,a2.qj le,a3.qj le,a4.qj le⟩
         |3,_=>obtain rfl:=Zo_ ho;intro a wx hR hF hO;have e53:=Tf_ hF 53 0 (.agg (Z9 raw dx).toArray);have e55:Mg n0 told (a.eval (.tmp 55)) wx:=hF 55 2 _ (by kernel_rfl) J J;clear hF hO;obtain ⟨y,q55,hr⟩:=e55;replace q55:a.tmps[55]?.getD undef=_:=(show a.tmps[55]?.getD undef=a.eval (.tmp 55) by simp [Act.eval]).trans q55;have HR:=Zh_ hr;have hj:=Lt raw told dx y (Yp HR.out.1.1) (Yp HR.out.2.1.1) (Yp HR.out.2.2.1.1) (Yp HR.out.2.2.2.1) wx;clear hr;go_simp;refine Calls.mono hj ?_;rintro e w' ⟨rfl,m⟩;exact ⟨_,J,m,y,J,HR.out.mod m⟩
         |j+4,hh=>omega
        ·intro vs wB hR hv;obtain ⟨y,e56,hy⟩:Mi n0 raw dx told (vs 3) wB:=hv 3 (by decide);have KB:=Zh_ (HB8.out wB hR);have HY:=Zh_ hy;have MB:=Zh_ (HM9.out.trans (((Zr_ _ w9).drew).trans hR));have ONE:=Zh_ (V8 (raw.join told) (dx.join y) (Yp hy.1.1) (Yp hy.2.1.1) (Yp hy.2.2.1.1) (Yp hy.2.2.2.1));clear hR hv hy;simp only [Yx,List.take_succ_cons,List.take_zero,Act.put,e56];go_simp;refine wpList_store_row J 50 _ _ J n8 (Z9 (raw.join told) (dx.join y)).toArray J J 50 _ KB.out (by rw [show (Z9 (raw.join told) (dx.join y)).toArray.size=19 from J];kernel_rfl) J (by rw [Array.all_eq_true_iff_forall_mem];intro u hu;exact ONE.out u (by simpa using hu)) ?_;go_wp2_with fail;go_meet;have mm:Ze [n8] wB (wB.setRow n8 (Z9 (raw.join told) (dx.join y)).toArray):=(Zr_ _ _).setRow _ _ (.inl (by simp));refine ⟨dx.join y,by rw [HE1.out];exact Y0 KB.out,?_,MB.out.then mm (λ j hj=>.inr (by simp at hj;subst hj;rw [HN8.out];exact Nat.le_refl _))⟩;rw [HE1.out];exact ⟨(HY.out.1.zy KB.out (by decide) mm).1,(HY.out.2.1.zy KB.out (by decide) mm).1,(HY.out.2.2.1.zy KB.out (by decide) mm).1,(HY.out.2.2.2.zy KB.out (by decide) mm).1⟩
       case rest=>
        obtain ⟨y,B,R,M⟩:=hcut;generalize wc=w10 at *
        have hE:=H.out.quiet (HM.out.trans M) Z3;have x12:=(hE.xc 12 (u:=E (I ⟨P.r,0,O⟩)) J).1;have lx2:=hE.uh;rw [<-HPX.out] at x12 lx2;obtain ⟨rf,ro,hR0⟩:=hE.j4;obtain ⟨pr,hpr⟩:∃ r,r=P.r:=⟨_,J⟩;rw [<-hpr] at x12 hR0;have C26:=Hq (o:=ro) (Za hR0 J);have y18:=Za (i:=18) B J;have z18:=Zb (i:=18) B;have l8:=lt_of_block B;have HB10:=Zh_ B;have HR10:=Zh_ R;have HM10:=Zh_ M;clear hE hR0 hpr B R M;go_wp2_with fail;refine C26.mono ?_;rintro e w11 ⟨rfl,rfl⟩;clear C26;go_wp2_with fail;go_meet;have mm:Ze [n8] w10 (w10.setCell ⟨n8,18,O⟩ (U Y ro)):=(Zr_ _ _).setCell _ _ (.inl (by simp));have ft:∀ {ty:TypeId} {zz nn:Nat} {xs:List Value} {v:Value},w10.ownsRow 0 ty zz v nn xs->ty≠50->(w10.setCell ⟨n8,18,O⟩ (U Y ro)).ownsRow 0 ty zz v nn xs:=λ hr ht=>(Yb.zy (n0:=0) ⟨hr,λ _ _=>Nat.zero_le _⟩ HB10.out ht mm).1;exact ⟨{y with til:=ro},Zd _ HB10.out,⟨ft HR10.out.1 (by decide),ft HR10.out.2.1 (by decide),ft HR10.out.2.2.1 (by decide),ft HR10.out.2.2.2 (by decide)⟩,HM10.out.then mm (λ j hj=>.inr (by simp at hj;subst hj;rw [HN8.out];exact Nat.le_refl _))⟩
     case rest=>
      obtain ⟨y,B,R,M⟩:=hcut;generalize wc=w11 at *
      have hlen:Mr dv:=by
       rw [HDV.out];refine HLN.out.view HK.out _ (Gx ?_);unfold Zn.view;simp;exact HZT.out
      have C27:=copied_c hlen R.1 R.2.1 R.2.2.1 R.2.2.2;have HB11:=Zh_ B;have HM11:=Zh_ M;clear B R M hlen HL;go_upto_region 16 with fail;obtain ⟨i0,z0,hi0,hz0,hz1,hz2,hz3⟩:=info50;refine wp_region_lit ?_;refine Yn J ?_;go_simp;refine Gv ?_;refine wpList_load_row J 50 _ J n8 J 50 (Z9 dv y).toArray (0,0) _ HB11.out underlying50 J (by rw [show (Z9 dv y).toArray.size=19 from J];kernel_rfl) ?_;refine Yn J ?_;go_simp;refine Calls.mono C27 ?_;rintro e w12 ⟨y2,rfl,T2,m12,_⟩;refine ⟨_,J,?_⟩;refine Yn J (Qb 38 50 (.tmp 65) J (Z9 dv y2).toArray J i0 z0 underlying38 hi0 hz0 hz1 (by show 0 < 19;omega) (by show 19<=1000;omega) ?_);have HT2:=Zh_ T2;have HM2:=Zh_ (HM11.out.trans m12);have HM12:=Zh_ ((HM.out.trans HM11.out).trans m12);have HW11:=Zh_ (HM.out.trans HM11.out);have hv:s.view.length=nd:=by unfold Zn.view;simp;rw [HND.out]
      have hzl:(s.view.take z).length=z:=by rw [List.length_take,hv];omega
      have hrow:=Yg HO.out.row ((HM11.out.trans m12).alloc (.cells (Z9 dv y2).toArray 50));rw [hzl] at hrow;have ONE:=V8 dv y2 (Yp T2.1.1) (Yp T2.2.1.1) (Yp T2.2.2.1.1) (Yp T2.2.2.2.1);refine Yn J (Y2 (.tmp 63) (.tmp 66) 38 J 0 50 i0 z0 19 216 underlying38 hi0 hz0 hz1 hz2 hz3 (by decide) _ z (Va (s.view.take z) es) J hrow ⟨w12.heap.size,0,O⟩ 1 1 (Z9 dv y2) J J (World.news_of_block (Zc w12 _)) ONE (by unfold maxLen;omega) (by omega) (Nat.zero_le _) ?_);intro v' w13 ho hg hat;have HOO:=Zh_ ho;have HG:=Zh_ hg;have HAT:=Zh_ hat;have HROW:=Zh_ hrow;have HZL:=Zh_ hzl;have HV:=Zh_ hv;obtain ⟨gv,cv,hvv,_⟩:=Ya ho (by omega);have HVV:=Zh_ hvv;rw [hvv];clear C27 T2 m12 hrow ONE ho hg hat hzl hv hvv hi0 hz0 hz1 hz2 hz3;refine Yn J ?_;go_simp;refine Gv ?_;go_wp2_with fail;go_roundw
      case rel=>
       have hu:=HROW.out;have mg:Ze _ _ w13:=(Zr_ _ _).grown HG.out (λ g hg=>.inl (Option.mem_toList.2 hg));have ht:s.view.take (z+1)=s.view.take z++[dv]:=by
        rw [List.take_succ_eq_append_getElem (by rw [HV.out];exact hlt),HDV.out];simp [G_,HV.out,hlt]
       refine ⟨z+1,by omega,by go_num,⟨es++[y2],?_⟩,?_,?_⟩
       ·rw [ht,<-HVV.out];refine HO.out.push (HM2.out.alloc _) ((HT2.out.qj HW11.out.size).mod ((Zr_ _ _).alloc _)) (Nat.le_trans HM12.out.size (by simp)) HG.out (by rw [HZL.out];exact HOO.out) HAT.out
       ·refine (HM12.out.alloc _).then mg (λ j hj=>.inr ?_)
        exact HO.out.own j (Option.mem_toList.1 hj)
       ·have hF:=HF.out.mod (HM2.out.alloc (.cells (Z9 dv y2).toArray 50)) (by simp);refine hF.mod mg (λ hm=>?_);have hty:=Yf hu (Option.mem_toList.1 hm);rw [Fg hF] at hty;cases hty
      case measure=>simp [intOf];omega
    ·have d5:decide ((z:Int) < nd)=false:=D9 (by omega);obtain rfl:z=nd:=by omega
     have HO:=Zh_ hO;have HM:=Zh_ m;have hv:s.view.take z=s.view:=List.take_of_length_le (by unfold Zn.view;simp;rw [HND.out];omega);have HV:=Zh_ hv;clear hO m hF hv;go_wp2;go_ret;obtain ⟨es,h⟩:=HO.out;rw [HV.out] at h;exact ⟨_,es,J,h,HM.out⟩
end
section
attribute [local go_sem] Zi
variable {w0 w w' w1:W} {lab lab' lab1:Nat->Nat} {P P':EP} {s s':Zn} {t i:Nat}
def StateP (w:W) (l:List Nat) (e:Ending) (w':W):Prop:=∃ u,e=R_ u/\Xq w.heap.size l u w'/\Ze [] w w'
def Dg (px ma:Nat) (st:Int):Nat->Value->W->Prop
 |0,v,_=>v=E (I ⟨px,0,O⟩)
 |1,v,_=>v=E (I ⟨px,0,O⟩)
 |2,v,_=>v=E (I ⟨px,11,O⟩)
 |3,v,_=>v=E (I ⟨ma,0,O⟩)
 |4,v,_=>v=E (I ⟨px,0,O⟩)
 |5,v,_=>v=E (I ⟨px,0,O⟩)
 |6,v,_=>v=E (I ⟨px,5,O⟩)
 |7,v,_=>v=E (I ⟨px,7,O⟩)
 |8,v,_=>v=U Y 2
 |9,v,_=>v=.tuple #[U Y_ st,U Y 0]
 |10,v,_=>v=.tuple #[U Y_ st,U Y 0]
 |11,v,_=>v=U Y_ st
 |12,v,_=>v=U Y 0
 |13,v,_=>v=U Y_ st
 |14,v,_=>v=U Y 0
 |_,_,_=>True
theorem Sa (px ma:Nat) (st:Int) (i:Nat) (v:Value) (w w':W) (h:Dg px ma st i v w) (_:Ze [] w w'):Dg px ma st i v w':=by
 match i,h with
 |0,h=>exact h
 |1,h=>exact h
 |2,h=>exact h
 |3,h=>exact h
 |4,h=>exact h
 |5,h=>exact h
 |6,h=>exact h
 |7,h=>exact h
 |8,h=>exact h
 |9,h=>exact h
 |10,h=>exact h
 |11,h=>exact h
 |12,h=>exact h
 |13,h=>exact h
 |14,h=>exact h
 |i+15,h=>trivial
theorem C4 (px ma:Nat) (st:Int) (i:Nat) (h:15<=i) (v:Value) (w:W):Dg px ma st i v w:=by
 match i,h with
 |j+15,_=>trivial
theorem vf (h:Ys w0 w lab P s) (k:Yi s):Calls N 14 #[Xy P.x] w (StateP w s.state):=by
 have hM:=h.mem;have lx:=h.uh;obtain ⟨px,hpx⟩:∃ z,z=P.x:=⟨_,J⟩;obtain ⟨ma,hma⟩:∃ z,z=P.a:=⟨_,J⟩;have lb2:s.mem.bad 2=0:=by
  have:=k.len;have hb:=k.cfg.b0;have ha:=k.cfg.a0;unfold Zw at this;unfold Zh.bad;rw [Q9 (by omega)]
 obtain ⟨st,hst⟩:∃ z,z=s.mem.xh 2:=⟨_,J⟩;obtain ⟨c0,hc0⟩:∃ z,z=s.c0:=⟨_,J⟩;have hc1:=k.cfg.a0;have hc256:=k.cfg.a1;rw [<-hc0] at hc1 hc256;have hX:=h.hx;unfold Gg at hX;rw [<-hpx,<-hma,<-hc0] at hX;have HX:=Zh_ (show ∀ wx,Ze [] w wx->wx.cell? ⟨px,0,O⟩=I (U Y c0)/\wx.cell? ⟨px,5,O⟩=I (U Y 0)/\wx.cell? ⟨px,6,O⟩=I (U Y 1)/\wx.cell? ⟨px,7,O⟩=I (U Y 2)/\wx.cell? ⟨px,8,O⟩=I (U Y 3)/\wx.cell? ⟨px,9,O⟩=I (U Y (Z2 s.c1))/\wx.cell? ⟨px,10,O⟩=I (U Y (Zw c0 s.c1))/\wx.cell? ⟨px,11,O⟩=I (E (I ⟨ma,0,O⟩)) from
  λ wx m=>by
   have qW:=m.at hX (by simp);exact ⟨Za qW J,Za qW J,Za qW J,Za qW J,Za qW J,Za qW J,Za qW J,Za qW J⟩)
 rw [<-hpx] at lx;rw [<-hma] at hM;unfold Xy;rw [<-hpx];have HC1:=Zh_ (show ∀ wx,Ze [] w.drew wx->wx.cell? ⟨px,11,O⟩=I (E (I ⟨ma,0,O⟩))/\wx.cell? ⟨px,7,O⟩=I (U Y 2) from
  λ wx hR=>by
   obtain ⟨_,_,_,a,_,_,_,b⟩:=HX.out wx (((Zr_ _ w).drew).trans hR);exact ⟨b,a⟩)
 have HP1:=Zh_ (show ∀ wx,Ze [] w.drew wx->Calls N 32 #[E (I ⟨ma,0,O⟩),U Y 2] wx (λ e w'=>e=R_ (.tuple #[U Y_ st,U Y 0])/\w'=wx) from
  λ wx hR=>by
   have:=Jo (hM.mod (((Zr_ _ w).drew).trans hR) (by simp) (by simp)) 2;rw [lb2,<-hst] at this;exact this)
 have HH:=Zh_ h;have HK:=Zh_ k;have HPX:=Zh_ hpx;have HMA:=Zh_ hma;have HST:=Zh_ hst;have HC0:=Zh_ hc0;have HM:=Zh_ hM;clear h k hpx hma hst hc0 hM hX lb2;go_enter func14,ntmps14;go_upto_region 1 with fail;refine Jr (by kernel_rfl) 15 (λ x y=>Ze [] x y) (Dg px ma st) (by kernel_rfl) (by rfl) (Sa px ma st) (λ a=>Zr_ _ _) (λ a b c h k=>h.trans k) (λ i v w' hv o ho hd=>Vi (m:=15) (by kernel_rfl) (C4 px ma st) ho hd) ?_ ?_
 ·intro i o hi ho
  match i,hi with
  |0,_=>obtain rfl:=Zo_ ho;intro a wx hR hF hO;have e0:=To_ hO 0 (E (I ⟨px,0,O⟩));clear hF hO;go_simp;exact ⟨Zr_ _ _,J⟩
  |1,_=>obtain rfl:=Zo_ ho;intro a wx hR hF hO;have e10:=Tf_ hF 10 0 (E (I ⟨px,0,O⟩));clear hF hO;go_simp;exact ⟨Zr_ _ _,J⟩
  |2,_=>obtain rfl:=Zo_ ho;intro a wx hR hF hO;have e11:=Tf_ hF 11 1 (E (I ⟨px,0,O⟩));clear hF hO;go_simp;exact ⟨Zr_ _ _,J⟩
  |3,_=>obtain rfl:=Zo_ ho;intro a wx hR hF hO;have e12:=Tf_ hF 12 2 (E (I ⟨px,11,O⟩));clear hF hO;obtain ⟨c11,c7⟩:=HC1.out wx hR;go_simp;exact ⟨Zr_ _ _,J⟩
  |4,_=>obtain rfl:=Zo_ ho;intro a wx hR hF hO;have e0:=To_ hO 0 (E (I ⟨px,0,O⟩));clear hF hO;go_simp;exact ⟨Zr_ _ _,J⟩
  |5,_=>obtain rfl:=Zo_ ho;intro a wx hR hF hO;have e14:=Tf_ hF 14 4 (E (I ⟨px,0,O⟩));clear hF hO;go_simp;exact ⟨Zr_ _ _,J⟩
  |6,_=>obtain rfl:=Zo_ ho;intro a wx hR hF hO;have e15:=Tf_ hF 15 5 (E (I ⟨px,0,O⟩));clear hF hO;go_simp;exact ⟨Zr_ _ _,J⟩
  |7,_=>obtain rfl:=Zo_ ho;intro a wx hR hF hO;have e16:=Tf_ hF 16 6 (E (I ⟨px,5,O⟩));clear hF hO;go_simp;exact ⟨Zr_ _ _,J⟩
  |8,_=>obtain rfl:=Zo_ ho;intro a wx hR hF hO;have e17:=Tf_ hF 17 7 (E (I ⟨px,7,O⟩));clear hF hO;obtain ⟨c11,c7⟩:=HC1.out wx hR;go_simp;exact ⟨Zr_ _ _,J⟩
  |9,_=>obtain rfl:=Zo_ ho;intro a wx hR hF hO;have e13:=Tf_ hF 13 3 (E (I ⟨ma,0,O⟩));have e18:=Tf_ hF 18 8 (U Y 2);clear hF hO;go_simp;refine Calls.mono (HP1.out wx hR) ?_;rintro e w' ⟨rfl,rfl⟩;exact ⟨_,J,Zr_ _ _,J⟩
  |10,_=>obtain rfl:=Zo_ ho;intro a wx hR hF hO;have e19:=Tf_ hF 19 9 (.tuple #[U Y_ st,U Y 0]);clear hF hO;go_simp;exact ⟨Zr_ _ _,J⟩
  |11,_=>obtain rfl:=Zo_ ho;intro a wx hR hF hO;have e9:=Tf_ hF 9 10 (.tuple #[U Y_ st,U Y 0]);clear hF hO;go_simp;exact ⟨Zr_ _ _,J⟩
  |12,_=>obtain rfl:=Zo_ ho;intro a wx hR hF hO;have e9:=Tf_ hF 9 10 (.tuple #[U Y_ st,U Y 0]);clear hF hO;go_simp;exact ⟨Zr_ _ _,J⟩
  |13,_=>obtain rfl:=Zo_ ho;intro a wx hR hF hO;have e20:=Tf_ hF 20 11 (U Y_ st);clear hF hO;go_simp;exact ⟨Zr_ _ _,J⟩
  |14,_=>obtain rfl:=Zo_ ho;intro a wx hR hF hO;have e21:=Tf_ hF 21 12 (U Y 0);clear hF hO;go_simp;exact ⟨Zr_ _ _,J⟩
  |j+15,hh=>omega
 ·intro vs w5 hR hv;have e3:vs 13=U Y_ st:=hv 13 (by decide);have m5:Ze [] w w5:=((Zr_ _ w).drew).trans hR;obtain ⟨x0,_⟩:=HX.out w5 m5;have l5:px < w5.heap.size:=Nat.lt_of_lt_of_le lx m5.size;have HM5:=Zh_ m5;clear hv hR m5;simp only [Yx,Act.put,e3];go_simp;go_wp2_with fail;obtain ⟨p4,hp4⟩:∃ z,z=Z2 s.c1:=⟨_,J⟩;have HP4:=Zh_ hp4;clear hp4
  go_loopw [27,5] (λ i o wx=>∃ z:Nat,(z:Int)<=c0/\i=U Y z/\Xq w.heap.size ((List.range z).map s.qm) o wx/\Ze [] w wx) (λ i o _=>c0.toNat - (intOf i).toNat)
  case atStart=>exact ⟨0,by omega,rfl,⟨World.ownsRow_nil _ _ _ _,by simp [Value.ownBlock]⟩,HM5.out⟩
  case round=>
   obtain ⟨z,hz,rfl,hO,m⟩:=hrel
   by_cases hlt:(z:Int) < c0
   ·have d4:decide ((z:Int) < c0)=true:=decide_eq_true hlt;obtain ⟨y0,y5,y6,y7,y8,y9,y10,y11⟩:=HX.out wr m;have HO:=Zh_ hO;have HM6:=Zh_ m;have lx6:px < wr.heap.size:=Nat.lt_of_lt_of_le lx m.size;have HAFT:=Zh_ (λ (wx:W) (mm:Ze [] wr wx)=>HX.out wx (m.trans mm));have hME:=HM.out.mod m (by simp) (by simp);have hxp:Yz (Z2 s.c1) z=0:=Xm (by omega) (by omega) (by have:=HK.out.cfg.b0;unfold Z2;omega) (by have:=HK.out.cfg.b1;unfold Z2;omega);have hbad:s.mem.bad (Z2 s.c1+3 * z+2)=0:=by
     have:=HK.out.len;have hb:=HK.out.cfg.b0;unfold Zw at this;unfold Zh.bad Z2;rw [Q9 (by rw [<-HC0.out] at this;omega)]
    clear hO m;rw [<-HP4.out] at y9 hxp hbad;go_upto_region 6 with fail;obtain ⟨p5,hp5⟩:∃ z,z=Zw c0 s.c1:=⟨_,J⟩;obtain ⟨v0,hv0⟩:∃ v,v=s.mem.xh (p4+3 * z):=⟨_,J⟩;obtain ⟨v1,hv1⟩:∃ v,v=s.mem.xh (p4+3 * z+1):=⟨_,J⟩;obtain ⟨v2,hv2⟩:∃ v,v=s.mem.xh (p4+3 * z+2):=⟨_,J⟩;rw [<-hp5] at y10 HAFT;have HA2:=Zh_ (show ∀ wx,Ze [] wr wx->wx.cell? ⟨px,5,O⟩=I (U Y 0)/\wx.cell? ⟨px,6,O⟩=I (U Y 1)/\wx.cell? ⟨px,7,O⟩=I (U Y 2)/\wx.cell? ⟨px,8,O⟩=I (U Y 3)/\wx.cell? ⟨px,9,O⟩=I (U Y p4)/\wx.cell? ⟨px,10,O⟩=I (U Y p5)/\wx.cell? ⟨px,11,O⟩=I (E (I ⟨ma,0,O⟩)) from λ wx mm=>by
     have:=(HAFT.out wx mm).2;rw [<-HP4.out] at this;exact this)
    have HP33:=Zh_ (show ∀ wx,Ze [] wr wx->Calls N 33 #[E (I ⟨ma,0,O⟩),A_ #[U Y 0,U Y 1,U Y 2,U Y 3,U Y p4,U Y p5],U Y z] wx (λ e w'=>e=R_ (.tuple #[A_ #[U Y_ v0,U Y_ v1,U Y_ v2],U Y 0])/\Ze [] wx w') from λ wx mm=>by
     refine (E0 (hME.mod mm (by simp) (by simp)) 0 1 2 3 p4 p5 z hxp hbad).mono ?_;rintro e w' ⟨h1,_,h3⟩;rw [<-hv0,<-hv1,<-hv2] at h1;exact ⟨h1,h3⟩)
    have HV:=Zh_ (show s.qm z=atB v0 v1 v2 st by unfold Zn.qm;rw [<-HP4.out,<-hv0,<-hv1,<-hv2,<-HST.out]);clear hp5 hv0 hv1 hv2 hxp hbad hME
    go_cut [7] (λ A wx=>∃ n7,A=E (I ⟨n7,0,O⟩)/\wx.heap[n7]? =I (X #[U Y_ v0,U Y_ v1,U Y_ v2] 101 (0,0))/\Ze [] wr wx)
    case first=>
     as_aux_lemma=>
      go_region_held3 (λ wx=>wx.cell? ⟨px,5,O⟩=I (U Y 0)/\wx.cell? ⟨px,6,O⟩=I (U Y 1)/\wx.cell? ⟨px,7,O⟩=I (U Y 2)/\wx.cell? ⟨px,8,O⟩=I (U Y 3)/\wx.cell? ⟨px,9,O⟩=I (U Y p4)/\wx.cell? ⟨px,10,O⟩=I (U Y p5)/\wx.cell? ⟨px,11,O⟩=I (E (I ⟨ma,0,O⟩)))
       (first|exact ⟨y5,y6,y7,y8,y9,y10,y11⟩|exact HA2.out _ (((((((Zr_ _ _).drew).alloc _).trans mz.out).setCell _ _ (.inr (Nat.le_refl _))).setCell _ _ (.inr (Nat.le_refl _))).setCell _ _ (.inr (Nat.le_refl _)))|exact HA2.out _ ((((Zr_ _ _).drew).alloc _).trans mz.out)|exact HA2.out _ (((Zr_ _ _).drew).trans mz.out)|exact HA2.out _ ((((Zr_ _ _).drew).trans mz.out).alloc _)|exact HA2.out _ (((Zr_ _ _).drew).alloc _)|exact HA2.out _ ((Zr_ _ _).drew))
       (first|(go_at_call 33;refine Calls.mono (HP33.out _ (((Zr_ _ _).drew).alloc (X #[U Y_ 0,U Y_ 0,U Y_ 0] 101))) ?_;rintro e wz ⟨rfl,mz⟩;have qZ:=mz.at (Zc _ _) (by simp);have z0:=Za (i:=0) qZ J;have z1:=Za (i:=1) qZ J;have z2:=Za (i:=2) qZ J;have f0:=Zb (i:=0) qZ;have f1:=Zb (i:=1) qZ;have f2:=Zb (i:=2) qZ;have mz:=Zh_ mz)|(go_at_call 33;refine Calls.mono (HP33.out _ (by first|exact (Zr_ _ _).drew|exact ((Zr_ _ _).drew).alloc _)) ?_;rintro e wz ⟨rfl,mz⟩;have mz:=Zh_ mz))
      all_goals
       go_wp2_with fail;go_meet
       first
       |exact ⟨_,J,Zc _ _,(((Zr_ _ _).drew).trans mz.out).alloc _⟩
       |exact ⟨_,J,Zd _ (Zd _ (Zd _ qZ)),((((((Zr_ _ _).drew).alloc _).trans mz.out).setCell _ _ (.inr (Nat.le_refl _))).setCell _ _ (.inr (Nat.le_refl _))).setCell _ _ (.inr (Nat.le_refl _))⟩
    case rest=>
     obtain ⟨n7,rfl,B7,M7⟩:=hcut;have b0:=Za (i:=0) B7 J;have b1:=Za (i:=1) B7 J;have b2:=Za (i:=2) B7 J;have hx0:(HAFT.out wr (Zr_ _ _)).1=(HAFT.out wr (Zr_ _ _)).1:=J;have hA:=at11_c v0 v1 v2 st wc;rw [<-HV.out] at hA;have HM7:=Zh_ M7;clear M7 B7 y0 y5 y6 y7 y8 y9 y10 y11 hx0 HA2 HP33;obtain ⟨l,hl⟩:∃ l,l=(List.range z).map s.qm:=⟨_,J⟩;have hO:=HO.out;rw [<-hl] at hO;have hlen:l.length=z:=by rw [hl];simp
     have HL:=Zh_ hl;have HLEN:=Zh_ hlen;have hfr:=hO.2;obtain ⟨av,cv,rfl⟩:=Zo hO.1;have hv:wc.ownsRow 0 51 1 (L av l.length cv) l.length (l.map (Z V)):=Yg hO.1 HM7.out;have HV7:=Zh_ hv;have HFR:=Zh_ hfr;obtain ⟨i0,hi0,hz0,hz1,hz2⟩:=info_parts Up;have hl6:l.length<=4096:=by omega
     clear hl hlen hO hfr hv HO;go_wp2_with fail;refine hA.mono ?_;rintro e w8 ⟨rfl,hw8⟩;have m8:Ze [] wc w8:=by rw [hw8];exact (Zr_ _ _).alloc _
     have hv:=Yg HV7.out m8;have HM8:=Zh_ m8;clear hw8 m8 hA b0 b1 b2;go_wp2_with (at_builtin;refine wpList_append_own_at _ J _ _ 24 J 0 51 i0 (Z V 0) 1 8 underlying24 hi0 hz0 hz1 hz2 J (by decide) _ _ _ J (hv.alloc _) ⟨w8.heap.size,0,O⟩ 1 1 [Z V (s.qm z)] J J ?CA ?CB ?CC ?CD ?CE ?_)
     case CA=>exact cell_one_new _ _ _
     case CB=>intro u hu;simp at hu;subst hu;rfl
     case CC=>unfold maxLen;omega
     case CD=>omega
     case CE=>exact Nat.zero_le _
     intro u' w9 ho hg _ hat;have HOO:=Zh_ ho;have HG:=Zh_ hg;have HAT:=Zh_ hat;have HV8:=Zh_ hv;obtain ⟨gv,cvv,hvv,_⟩:=Ya ho (by omega);have HVV:=Zh_ hvv;rw [hvv];clear ho hg hat hvv hv hi0 hz0 hz1 hz2;go_wp2_with fail;go_roundw
     case rel=>
      have ml:Ze [] w w8:=(HM6.out.trans HM7.out).trans HM8.out;have mg:Ze _ _ w9:=(Zr_ _ _).grown HG.out (λ g hg=>.inl (Option.mem_toList.2 hg));refine ⟨z+1,by omega,by go_num,⟨?_,?_⟩,?_⟩
      ·have h:=HOO.out;rw [HVV.out] at h;have e:((List.range (z+1)).map s.qm)=l++[s.qm z]:=by rw [HL.out,List.range_succ,List.map_append];rfl
       rw [e];simpa using h
      ·intro g hgg;rw [<-HVV.out] at hgg;rcases HAT.out with e|e
       ·exact HFR.out g (e.symm.trans hgg)
       ·rw [e] at hgg;have h1:=Zo_ hgg;rw [<-h1];exact Nat.le_trans ml.size (by simp)
      ·refine (ml.alloc _).then mg (λ j hj=>.inr ?_)
       exact HFR.out j (Option.mem_toList.1 hj)
     case measure=>simp [intOf];omega
   ·have d4:decide ((z:Int) < c0)=false:=D9 (by omega);have hs:(List.range z).map s.qm=s.state:=by
     unfold Zn.state;rw [<-HC0.out,show c0.toNat=z by omega]
    rw [hs] at hO;have HO:=Zh_ hO;have HMM:=Zh_ m;clear hO m hs;go_wp2;go_ret;exact ⟨_,J,HO.out,HMM.out⟩
end
end Go.Proofs.YtkhonmhnchdpkaaGreat
