/- A part of the proof; no condition. -/
import Derived.Test.YtkhonmhnchdpkaaGreatP32
set_option maxRecDepth 100000
set_option maxHeartbeats 40000000
namespace Go.Proofs.YtkhonmhnchdpkaaGreat
open Go.RowKit _root_.Go.Proofs.Tryz
section
structure Dj (d:Zv):Prop where
 a:d.args.length<=4096
 r:d.reads.length<=4096
 w:d.writes.length<=4096
 o:d.out.length<=4096
theorem Xj.all_len (b:Xj):b.all.length=b.order.length:=by unfold Xj.all;simp
theorem Tb {m:Zl} (o:Yl m):m.reads.length<=1024/\m.out.length<=1024:=by
 have h1:=o.out;have h2:=o.used1;have h3:=o.fuel;have h4:=o.reads;split at h4 <;> omega
theorem Jz.dlen {c0 c1:Int} {x:Z2} (h:Jz c0 c1 x):Dj x.told:=by
 obtain ⟨a,b⟩:=Tb h.mo;refine ⟨?_,?_,?_,?_⟩
 ·show x.args.length<=4096;have:=h.ar;omega
 ·show x.m.reads.length<=4096;omega
 ·show x.m.buf.all.length<=4096;rw [Xj.all_len];have:=h.buf.room;have:=h.most;omega
 ·show x.m.out.length<=4096;omega
theorem Ks.dlen {c0 c1 t:Int} {y:Yg} (h:Ks c0 c1 t y):Dj y.told:=by
 obtain ⟨a,b⟩:=Tb h.mo;refine ⟨?_,?_,?_,?_⟩
 ·show y.args.length<=4096;have:=h.ar;omega
 ·show y.m.reads.length<=4096;omega
 ·show y.m.buf.all.length<=4096;rw [Xj.all_len,h.buf];simp
 ·show y.m.out.length<=4096;omega
theorem T8.dlen {c0 c1 t:Int} {g:Qw} (h:T8 c0 c1 t g):Dj g.told:=by
 cases g with
 |wr x=>exact Jz.dlen h
 |rd y=>exact Ks.dlen h
theorem T8.stepLen {c0 c1 t:Int} {g:Qw} {m:Zh} (k:Bs c0 c1) (hl:(m.ws.length:Int)=Zw c0 c1) (h:T8 c0 c1 t g) (v:Nat):Dj (g.step m.opened v).1.told:=by
 cases g with
 |wr x=>
  have hm:Jz c0 c1 x:=h;rcases Jz.step k hl h v with e|e
  ·show Dj (x.step m.opened v).1.told;rw [e.2];have:=hm.dlen;exact ⟨this.a,this.r,this.w,this.o⟩
  ·exact e.dlen
 |rd y=>
  have hm:Ks c0 c1 t y:=h;rcases Ks.step k hl h v with e|e
  ·show Dj (y.step m.opened v).1.told;rw [e.2];have:=hm.dlen;exact ⟨this.a,this.r,this.w,this.o⟩
  ·exact e.dlen
def Zq.Len (s:Zq):Prop:=∀ x∈s.txs,Dj x.raw
variable {s:Zq} {t:Nat}
theorem Zq.Len.ready (h:s.Len) (t:Nat):(s.ready t).Len:=by
 unfold Zq.ready;split
 ·intro x hx;have hx:x∈s.txs++[_]:=hx;rw [List.mem_append,List.mem_singleton] at hx;rcases hx with hx|rfl
  ·exact h x hx
  ·exact ⟨by simp [Xl],by simp [Xl],by simp [Xl],by simp [Xl]⟩
 ·exact h
theorem Zq.Len.step (h:s.Len) (k:Ym s) (ht:t < s.ths.length) (v:Nat):(s.step t v).Len:=by
 unfold Zq.step;cases hf:(s.th t).fin with
 |true=>rw [if_pos rfl];exact h
 |false=>
  rw [if_neg (by simp)];obtain ⟨hr,hl,i,hc⟩:=k.ready ht hf;have ht':t < (s.ready t).ths.length:=by rw [hl];exact ht
  obtain ⟨raw,g,hx,_⟩:=hr.cur t i ht' hc;rw [Bh hc hx];have hL:=h.ready t;obtain ⟨u,hu,_,_,hG⟩:=hr.tx i raw g hx;have hd:=T8.stepLen hr.cfg hr.len hG v;have hraw:=hL _ (List.mem_of_getElem? hx);unfold Zq.fired;split
  ·intro x hx';have hx':x∈(s.ready t).txs.set i ⟨{raw.join (g.step (s.ready t).mem.opened v).1.told with ended:=(s.ready t).steps},none⟩:=hx';rcases List.mem_or_eq_of_mem_set hx' with e|e
   ·exact hL x e
   ·rw [e];exact ⟨hd.a,hd.r,hd.w,hd.o⟩
  ·intro x hx';have hx':x∈(s.ready t).txs.set i ⟨raw,some (g.step (s.ready t).mem.opened v).1⟩:=hx';rcases List.mem_or_eq_of_mem_set hx' with e|e
   ·exact hL x e
   ·rw [e];exact hraw
theorem Zq.Len.view (h:s.Len) (k:Ym s):∀ d∈s.view,Dj d:=by
 intro d hd;unfold Zq.view at hd;obtain ⟨x,hx,rfl⟩:=List.mem_map.1 hd;obtain ⟨raw,g⟩:=x;cases g with
 |none=>exact h _ hx
 |some g=>
  obtain ⟨i,hi⟩:=List.getElem?_of_mem hx;obtain ⟨u,hu,_,_,hG⟩:=k.tx i raw g hi;have:=hG.dlen;exact ⟨this.a,this.r,this.w,this.o⟩
end
section
theorem Fc (l:List Nat):∀ u∈l.map (Value.float .f64),u.oneCell'=true:=by
 intro u hu;simp at hu;obtain ⟨a,_,rfl⟩:=hu;rfl
def CopyP (w:World) (d:Zv) (x:DX) (e:Ending) (w':World):Prop:=∃ y:DX,e=.returned (.agg (Z5 d y).toArray)/\V4 w.heap.size d y w'/\Ze [] w w'/\y.til=x.til
theorem copied_c {w:World} {d:Zv} {x:DX} (hl:Dj d) (ra:w.ownsRow 0 51 1 x.va d.args.length (d.args.map (Value.float .f64))) (rr:w.ownsRow 0 53 2 x.vr d.reads.length (Yh d.reads)) (rw':w.ownsRow 0 53 2 x.vw d.writes.length (Yh d.writes)) (ro:w.ownsRow 0 51 1 x.vo d.out.length (d.out.map (Value.float .f64))):
  Calls Tryz.prog 27 #[.agg (Z5 d x).toArray] w (CopyP w d x):=by
 obtain ⟨x0,hx0⟩:∃ z,z=x:=⟨_,rfl⟩;obtain ⟨cs0,hcs0⟩:∃ z,z=(Z5 d x).toArray:=⟨_,rfl⟩;have hz0:cs0.size=19:=by rw [hcs0];rfl
 rw [<-hcs0];have HL:=Zh_ hl;have RA:=Zh_ ra;have RR:=Zh_ rr;have RW:=Zh_ rw';have RO:=Zh_ ro;have HX0:=Zh_ hx0;have HCS:=Zh_ hcs0;have HZ:=Zh_ hz0;have hbox:∀ w:World,(Instr.box 50 (.agg cs0)).run Tryz.prog w=.ok (.pointer (some ⟨w.heap.size,0,none⟩)) (w.alloc (.cells cs0 50)):=λ w=>by rw [HCS.out];kernel_rfl
 clear hl ra rr rw' ro hx0 hcs0 hz0;go_enter func27,ntmps27;go_upto_region 1 with fail;obtain ⟨n1,hn1⟩:∃ n,n=w.heap.size:=⟨_,rfl⟩;obtain ⟨n2,hn2⟩:∃ n,n=n1+1:=⟨_,rfl⟩;obtain ⟨w0,hw0⟩:∃ z,z=(w.alloc (.cells cs0 50)).alloc (.cells #[.int .i64 0,.int .i64 0,.int .i64 0,.int .i64 0,.slice none 0 0,.int .i64 0,.int .i64 0,.slice none 0 0,.slice none 0 0,.slice none 0 0,.int .i64 0,.int .i64 0,.int .i64 0,.int .i64 0,.int .i64 0,.int .i64 0,.int .i64 0,.int .i64 0,.int .i64 0] 50):=⟨_,rfl⟩;have B1:w0.heap[n1]? =some (.cells (Z5 d x0).toArray 50 (0,0)):=by rw [hw0,hn1,HX0.out,<-HCS.out];exact Zf _ (Zc _ _)
 have B2:w0.heap[n2]? =some (.cells Ya 50 (0,0)):=by rw [hw0,hn2,hn1];exact Tx _ _ _
 have M0:Ze [] w w0:=by rw [hw0];exact ((Zr_ _ _).alloc _).alloc _
 simp only [<-hw0,<-hn1,<-hn2];have HB1:=Zh_ B1;have HB2:=Zh_ B2;have HM:=Zh_ M0;have HN1:=Zh_ hn1;have HN2:=Zh_ hn2;have HF:=Zh_ (show x0.til=x.til by rw [HX0.out]);have HVA:=Zh_ (show x0.va=x.va by rw [HX0.out]);have HVR:=Zh_ (show x0.vr=x.vr by rw [HX0.out]);have HVW:=Zh_ (show x0.vw=x.vw by rw [HX0.out]);have HVO:=Zh_ (show x0.vo=x.vo by rw [HX0.out]);have HT:=Zh_ (True.intro);clear B1 B2 M0 hn1 hn2 hw0 hbox;have c0:w0.cell? ⟨n1,4,none⟩=some x0.va:=Za HB1.out rfl;have l0:=lt_of_block HB1.out;have o0:=Ye RA.out HM.out;rw [<-HVA.out] at o0;refine wp_region_lit ?_;refine Y3 (.pointer (some ⟨n1,4,none⟩)) rfl (by go_simp) ?_;refine Y3 x0.va rfl (by go_simp) ?_;refine Yj rfl (Bg 4 rfl x0.va _ _ rfl o0 (Fc _) HL.out.a ?_);intro u0 v0 hu0 hn0 hm0;have b0:=hm0.at HB1.out (by simp);have e0:v0.cell? ⟨n1,4,none⟩=some x0.va:=Za b0 rfl;have z0:v0.frozen? ⟨n1,4,none⟩=false:=Zb b0;have q0:=Yo hu0;have k0:=lt_of_block b0;have HU:=Zh_ hu0;have HNU:=Zh_ hn0;have HMU:=Zh_ hm0;have HBU:=Zh_ b0;obtain ⟨ua0,uc0,hue0⟩:=Zo hu0;have HUE:=Zh_ hue0;rw [hue0];clear o0 hu0 hn0 hm0 b0 c0 l0 q0 hue0;go_upto_region 2 with fail;rw [<-HUE.out];obtain ⟨x1,hx1⟩:∃ z:DX,z={x0 with va:=u0}:=⟨_,rfl⟩;have m0:Ze [n1] w0 (v0.setCell ⟨n1,4,none⟩ u0):=(HMU.out.weak [n1]).setCell _ _ (.inl (by simp));have nn0:Ze [n1] v0 (v0.setCell ⟨n1,4,none⟩ u0):=(Zr_ _ _).setCell _ _ (.inl (by simp));have HB1':=Zh_ (show (v0.setCell ⟨n1,4,none⟩ u0).heap[n1]? =some (.cells (Z5 d x1).toArray 50 (0,0)) by rw [hx1];exact Zd _ HBU.out);have HB2':=Zh_ (m0.at HB2.out (by have:=HN2.out;simp;omega));have HM':=Zh_ (HM.out.then m0 (λ j hj=>.inr (by simp at hj;subst hj;rw [HN1.out];exact Nat.le_refl _)));have HF':=Zh_ (show x1.til=x.til by rw [hx1];exact HF.out);have HVR':=Zh_ (show x1.vr=x.vr by rw [hx1];exact HVR.out);have HVW':=Zh_ (show x1.vw=x.vw by rw [hx1];exact HVW.out);have HVO':=Zh_ (show x1.vo=x.vo by rw [hx1];exact HVO.out);have Dva':=Zh_ (show Xm w.heap.size d.args x1.va (v0.setCell ⟨n1,4,none⟩ u0) by rw [hx1];exact Z8.far ⟨HU.out,λ g hg=>Nat.le_trans HM.out.size (HNU.out g hg)⟩ HBU.out (by decide) nn0);clear HB1 HB2 HM HF HU HNU HBU HUE HMU m0 nn0 hx1 e0 z0 k0 HVA HVR HVW HVO;generalize v0.setCell ⟨n1,4,none⟩ u0=w1 at *
 have HB1:=HB1';have HB2:=HB2';have HM:=HM';have HF:=HF';have Dva:=Dva';have HVR:=HVR';have HVW:=HVW';have HVO:=HVO';clear HB1' HB2' HM' HF' Dva' HVR' HVW' HVO';have c1:w1.cell? ⟨n1,9,none⟩=some x1.vo:=Za HB1.out rfl;have l1:=lt_of_block HB1.out;have o1:=Ye RO.out HM.out;rw [<-HVO.out] at o1;refine wp_region_lit ?_;refine Y3 (.pointer (some ⟨n1,9,none⟩)) rfl (by go_simp) ?_;refine Y3 x1.vo rfl (by go_simp) ?_;refine Yj rfl (Bg 8 rfl x1.vo _ _ rfl o1 (Fc _) HL.out.o ?_);intro u1 v1 hu1 hn1 hm1;have b1:=hm1.at HB1.out (by simp);have e1:v1.cell? ⟨n1,9,none⟩=some x1.vo:=Za b1 rfl;have z1:v1.frozen? ⟨n1,9,none⟩=false:=Zb b1;have q1:=Yo hu1;have k1:=lt_of_block b1;have HU:=Zh_ hu1;have HNU:=Zh_ hn1;have HMU:=Zh_ hm1;have HBU:=Zh_ b1;obtain ⟨ua1,uc1,hue1⟩:=Zo hu1;have HUE:=Zh_ hue1;rw [hue1];clear o1 hu1 hn1 hm1 b1 c1 l1 q1 hue1;go_upto_region 3 with fail;rw [<-HUE.out];obtain ⟨x2,hx2⟩:∃ z:DX,z={x1 with vo:=u1}:=⟨_,rfl⟩;have m1:Ze [n1] w1 (v1.setCell ⟨n1,9,none⟩ u1):=(HMU.out.weak [n1]).setCell _ _ (.inl (by simp));have nn1:Ze [n1] v1 (v1.setCell ⟨n1,9,none⟩ u1):=(Zr_ _ _).setCell _ _ (.inl (by simp));have HB1':=Zh_ (show (v1.setCell ⟨n1,9,none⟩ u1).heap[n1]? =some (.cells (Z5 d x2).toArray 50 (0,0)) by rw [hx2];exact Zd _ HBU.out);have HB2':=Zh_ (m1.at HB2.out (by have:=HN2.out;simp;omega));have HM':=Zh_ (HM.out.then m1 (λ j hj=>.inr (by simp at hj;subst hj;rw [HN1.out];exact Nat.le_refl _)));have HF':=Zh_ (show x2.til=x.til by rw [hx2];exact HF.out);have Dva':=Zh_ (show Xm w.heap.size d.args x2.va (v1.setCell ⟨n1,9,none⟩ u1) by rw [hx2];exact (Dva.out.mod HMU.out).far HBU.out (by decide) nn1);have HVR':=Zh_ (show x2.vr=x.vr by rw [hx2];exact HVR.out);have HVW':=Zh_ (show x2.vw=x.vw by rw [hx2];exact HVW.out);have Dvo':=Zh_ (show Xm w.heap.size d.out x2.vo (v1.setCell ⟨n1,9,none⟩ u1) by rw [hx2];exact Z8.far ⟨HU.out,λ g hg=>Nat.le_trans HM.out.size (HNU.out g hg)⟩ HBU.out (by decide) nn1);clear HB1 HB2 HM HF HU HNU HBU HUE HMU m1 nn1 hx2 e1 z1 k1 HVO Dva HVR HVW;generalize v1.setCell ⟨n1,9,none⟩ u1=w2 at *
 have HB1:=HB1';have HB2:=HB2';have HM:=HM';have HF:=HF';have Dva:=Dva';have HVR:=HVR';have HVW:=HVW';have Dvo:=Dvo';clear HB1' HB2' HM' HF' Dva' HVR' HVW' Dvo';have c2:w2.cell? ⟨n1,7,none⟩=some x2.vr:=Za HB1.out rfl;have l2:=lt_of_block HB1.out;have o2:=Ye RR.out HM.out;rw [<-HVR.out] at o2;refine wp_region_lit ?_;refine Y3 (.pointer (some ⟨n1,7,none⟩)) rfl (by go_simp) ?_;refine Y3 x2.vr rfl (by go_simp) ?_;refine Yj rfl (Bf 12 rfl x2.vr _ _ rfl o2 (Bu _) HL.out.r ?_);intro u2 v2 hu2 hn2 hm2;have b2:=hm2.at HB1.out (by simp);have e2:v2.cell? ⟨n1,7,none⟩=some x2.vr:=Za b2 rfl;have z2:v2.frozen? ⟨n1,7,none⟩=false:=Zb b2;have q2:=Yo hu2;have k2:=lt_of_block b2;have HU:=Zh_ hu2;have HNU:=Zh_ hn2;have HMU:=Zh_ hm2;have HBU:=Zh_ b2;obtain ⟨ua2,uc2,hue2⟩:=Zo hu2;have HUE:=Zh_ hue2;rw [hue2];clear o2 hu2 hn2 hm2 b2 c2 l2 q2 hue2;go_upto_region 4 with fail;rw [<-HUE.out];obtain ⟨x3,hx3⟩:∃ z:DX,z={x2 with vr:=u2}:=⟨_,rfl⟩;have m2:Ze [n1] w2 (v2.setCell ⟨n1,7,none⟩ u2):=(HMU.out.weak [n1]).setCell _ _ (.inl (by simp));have nn2:Ze [n1] v2 (v2.setCell ⟨n1,7,none⟩ u2):=(Zr_ _ _).setCell _ _ (.inl (by simp));have HB1':=Zh_ (show (v2.setCell ⟨n1,7,none⟩ u2).heap[n1]? =some (.cells (Z5 d x3).toArray 50 (0,0)) by rw [hx3];exact Zd _ HBU.out);have HB2':=Zh_ (m2.at HB2.out (by have:=HN2.out;simp;omega));have HM':=Zh_ (HM.out.then m2 (λ j hj=>.inr (by simp at hj;subst hj;rw [HN1.out];exact Nat.le_refl _)));have HF':=Zh_ (show x3.til=x.til by rw [hx3];exact HF.out);have Dva':=Zh_ (show Xm w.heap.size d.args x3.va (v2.setCell ⟨n1,7,none⟩ u2) by rw [hx3];exact (Dva.out.mod HMU.out).far HBU.out (by decide) nn2);have HVW':=Zh_ (show x3.vw=x.vw by rw [hx3];exact HVW.out);have Dvo':=Zh_ (show Xm w.heap.size d.out x3.vo (v2.setCell ⟨n1,7,none⟩ u2) by rw [hx3];exact (Dvo.out.mod HMU.out).far HBU.out (by decide) nn2);have Dvr':=Zh_ (show Qf w.heap.size d.reads x3.vr (v2.setCell ⟨n1,7,none⟩ u2) by rw [hx3];exact Z8.far ⟨HU.out,λ g hg=>Nat.le_trans HM.out.size (HNU.out g hg)⟩ HBU.out (by decide) nn2);clear HB1 HB2 HM HF HU HNU HBU HUE HMU m2 nn2 hx3 e2 z2 k2 HVR Dva HVW Dvo;generalize v2.setCell ⟨n1,7,none⟩ u2=w3 at *
 have HB1:=HB1';have HB2:=HB2';have HM:=HM';have HF:=HF';have Dva:=Dva';have Dvr:=Dvr';have HVW:=HVW';have Dvo:=Dvo';clear HB1' HB2' HM' HF' Dva' Dvr' HVW' Dvo';have c3:w3.cell? ⟨n1,8,none⟩=some x3.vw:=Za HB1.out rfl;have l3:=lt_of_block HB1.out;have o3:=Ye RW.out HM.out;rw [<-HVW.out] at o3;refine wp_region_lit ?_;refine Y3 (.pointer (some ⟨n1,8,none⟩)) rfl (by go_simp) ?_;refine Y3 x3.vw rfl (by go_simp) ?_;refine Yj rfl (Bf 16 rfl x3.vw _ _ rfl o3 (Bu _) HL.out.w ?_);intro u3 v3 hu3 hn3 hm3;have b3:=hm3.at HB1.out (by simp);have e3:v3.cell? ⟨n1,8,none⟩=some x3.vw:=Za b3 rfl;have z3:v3.frozen? ⟨n1,8,none⟩=false:=Zb b3;have q3:=Yo hu3;have k3:=lt_of_block b3;have HU:=Zh_ hu3;have HNU:=Zh_ hn3;have HMU:=Zh_ hm3;have HBU:=Zh_ b3;obtain ⟨ua3,uc3,hue3⟩:=Zo hu3;have HUE:=Zh_ hue3;rw [hue3];clear o3 hu3 hn3 hm3 b3 c3 l3 q3 hue3;go_upto_region 5 with fail;rw [<-HUE.out];obtain ⟨x4,hx4⟩:∃ z:DX,z={x3 with vw:=u3}:=⟨_,rfl⟩;have m3:Ze [n1] w3 (v3.setCell ⟨n1,8,none⟩ u3):=(HMU.out.weak [n1]).setCell _ _ (.inl (by simp));have nn3:Ze [n1] v3 (v3.setCell ⟨n1,8,none⟩ u3):=(Zr_ _ _).setCell _ _ (.inl (by simp));have HB1':=Zh_ (show (v3.setCell ⟨n1,8,none⟩ u3).heap[n1]? =some (.cells (Z5 d x4).toArray 50 (0,0)) by rw [hx4];exact Zd _ HBU.out);have HB2':=Zh_ (m3.at HB2.out (by have:=HN2.out;simp;omega));have HM':=Zh_ (HM.out.then m3 (λ j hj=>.inr (by simp at hj;subst hj;rw [HN1.out];exact Nat.le_refl _)));have HF':=Zh_ (show x4.til=x.til by rw [hx4];exact HF.out);have Dva':=Zh_ (show Xm w.heap.size d.args x4.va (v3.setCell ⟨n1,8,none⟩ u3) by rw [hx4];exact (Dva.out.mod HMU.out).far HBU.out (by decide) nn3);have Dvr':=Zh_ (show Qf w.heap.size d.reads x4.vr (v3.setCell ⟨n1,8,none⟩ u3) by rw [hx4];exact (Dvr.out.mod HMU.out).far HBU.out (by decide) nn3);have Dvo':=Zh_ (show Xm w.heap.size d.out x4.vo (v3.setCell ⟨n1,8,none⟩ u3) by rw [hx4];exact (Dvo.out.mod HMU.out).far HBU.out (by decide) nn3);have Dvw':=Zh_ (show Qf w.heap.size d.writes x4.vw (v3.setCell ⟨n1,8,none⟩ u3) by rw [hx4];exact Z8.far ⟨HU.out,λ g hg=>Nat.le_trans HM.out.size (HNU.out g hg)⟩ HBU.out (by decide) nn3);clear HB1 HB2 HM HF HU HNU HBU HUE HMU m3 nn3 hx4 e3 z3 k3 HVW Dva Dvr Dvo;generalize v3.setCell ⟨n1,8,none⟩ u3=w4 at *
 have HB1:=HB1';have HB2:=HB2';have HM:=HM';have HF:=HF';have Dva:=Dva';have Dvr:=Dvr';have Dvw:=Dvw';have Dvo:=Dvo';clear HB1' HB2' HM' HF' Dva' Dvr' Dvw' Dvo';have ONE:=Zh_ (Vk d x4 (Yo Dva.out.1) (Yo Dvr.out.1) (Yo Dvw.out.1) (Yo Dvo.out.1));refine wp_region_lit ?_;refine wpList_load_row rfl 50 _ rfl n1 rfl 50 (Z5 d x4).toArray (0,0) _ HB1.out underlying50 rfl (by rw [show (Z5 d x4).toArray.size=19 from rfl];kernel_rfl) ?_;refine wpList_store_row rfl 50 _ _ rfl n2 (Z5 d x4).toArray rfl rfl 50 _ HB2.out (by rw [show (Z5 d x4).toArray.size=19 from rfl];kernel_rfl) rfl (by rw [Array.all_eq_true_iff_forall_mem];intro u hu;exact ONE.out u (by simpa using hu)) ?_;go_wp2_with fail;refine bodyPost_ret (v:=.agg (Z5 d x4).toArray) (results_cell_row (P:=Tryz.prog) (fn:=Tryz.f27) (p:=2) (ty:=50) rfl _ _ n2 50 _ (0,0) _ rfl (Y0 HB2.out) underlying50 rfl (by rw [show (Z5 d x4).toArray.size=19 from rfl];kernel_rfl)) rfl ?_;have mm:Ze [n2] w4 (w4.setRow n2 (Z5 d x4).toArray):=(Zr_ _ _).setRow _ _ (.inl (by simp));exact ⟨x4,rfl,⟨Dva.out.far HB2.out (by decide) mm,Dvr.out.far HB2.out (by decide) mm,Dvw.out.far HB2.out (by decide) mm,Dvo.out.far HB2.out (by decide) mm⟩,HM.out.then mm (λ j hj=>.inr (by simp at hj;subst hj;have:=HN1.out;have:=HN2.out;omega)),HF.out⟩
end
section
variable {w0 w w' w1:World} {lab lab' lab1:Nat->Nat} {P P':EP} {s s':Zq} {t i:Nat} {raw:Zv} {g:Qw}
def Un (P:EP) (s:Zq):Nat->Int->Option Value
 |0=>λ _=>none
 |k+1=>match (s.th k).cur with
  |none=>Un P s k
  |some i=>J1 (Un P s k) i (P.gv k)
theorem Sy (k:Ym s) {n:Nat} (hn:n<=s.ths.length) (ht:t < n) (hc:(s.th t).cur=some i):Un P s n i=some (P.gv t):=by
 induction n with
 |zero=>omega
 |succ n ih=>
  unfold Un
  by_cases e:t=n
  ·subst e;rw [hc];simp [J1]
  ·have:=ih (by omega) (by omega);cases hj:(s.th n).cur with
   |none=>exact this
   |some j=>
    show J1 (Un P s n) j (P.gv n) i=_;unfold J1
    by_cases e2:(i:Int)=j
    ·have:i=j:=by omega
     subst this;exact absurd (k.one (by omega) (by omega) hc hj) e
    ·rw [if_neg e2];exact this
theorem S0 {n:Nat} (h:∀ t,t < n->(s.th t).cur≠some i):Un P s n i=none:=by
 induction n with
 |zero=>rfl
 |succ n ih=>
  unfold Un;have:=ih (λ t ht=>h t (by omega));cases hj:(s.th n).cur with
  |none=>exact this
  |some j=>
   show J1 (Un P s n) j (P.gv n) i=_;unfold J1
   by_cases e2:(i:Int)=j
   ·have:i=j:=by omega
    subst this;exact absurd hj (h n (by omega))
   ·rw [if_neg e2];exact this
theorem Ym.under (k:Ym s) (hi:i < s.txs.length):(∃ raw,s.txs[i]? =some ⟨raw,none⟩/\Un P s s.ths.length i=none)\/∃ raw g t,s.txs[i]? =some ⟨raw,some g⟩/\t < s.ths.length/\(s.th t).cur=some i/\s.goer t=some g/\T6 g/\Un P s s.ths.length i=some (P.gv t):=by
 have hx:s.txs[i]? =some s.txs[i]:=by simp [hi]
 obtain ⟨x,hq⟩:∃ x,x=s.txs[i]:=⟨_,rfl⟩;rw [<-hq] at hx;obtain ⟨raw,g⟩:=x;cases g with
 |none=>
  left;refine ⟨raw,hx,S0 (λ t ht hc=>?_)⟩;obtain ⟨r2,g2,x2,_⟩:=k.cur t i ht hc;rw [hx] at x2;simp at x2
 |some g=>
  right;obtain ⟨t,ht,hc,_,hG⟩:=k.tx i raw g hx;refine ⟨raw,g,t,hx,ht,hc,?_,hG.tell,Sy k (Nat.le_refl _) ht hc⟩;unfold Zq.goer;rw [hc];simp [hx]
structure Ux (w:World) (n0:Nat) (l:List Zv) (es:List DX) (v:Value):Prop where
 len:es.length=l.length
 row:w.ownsRow 0 50 19 v l.length (Qq l es)
 own:∀ g,v.ownBlock=some g->n0<=g
 rows:∀ k,k < l.length->V4 n0 (l.getD k Qc) (es.getD k X0) w
theorem Ux.nil (w:World) (n0:Nat):Ux w n0 [] [] (.slice none 0 0):=
 ⟨rfl,World.ownsRow_nil _ _ _ _,by simp [Value.ownBlock],λ k hk=>absurd hk (by simp)⟩
end
section
variable {w w':World} {l:List Nat} {va vb:Value}
theorem Hj {ty:TypeId} {z n:Nat} {xs:List Value} {a:Option Addr} {c:Nat} (h:w.ownsRow 0 ty z (.slice a n c) n xs) (_:0 < z):∀ i,i < n * z->∃ g,a=some ⟨g,0,none⟩/\g < w.heap.size/\w.cell? ⟨g,i,none⟩=xs[i]?:=by
 intro i hi;have hn:0 < n:=by
  rcases Nat.eq_zero_or_pos n with h0|h0
  ·subst h0;omega
  ·exact h0
 obtain ⟨g,c',e,_⟩:=Yd h hn;simp only [Value.slice.injEq,true_and] at e;obtain ⟨rfl,rfl⟩:=e;exact ⟨g,rfl,Ys h rfl,h.cellAt i hi⟩
theorem R9 (h1:w.ownsRow 0 51 1 va l.length (l.map (Value.float .f64))) (h2:w.ownsRow 0 51 1 vb l.length (l.map (Value.float .f64))) (hl:l.length<=4096):
  Calls Tryz.prog 13 #[va,vb] w λ e w'=>e=.returned (.bool true)/\Ze [] w w':=by
 obtain ⟨a1,c1,rfl⟩:=Zo h1;obtain ⟨a2,c2,rfl⟩:=Zo h2;have C1:=Zh_ (Hj h1 (by decide));have C2:=Zh_ (Hj h2 (by decide));obtain ⟨n,hn⟩:∃ n,n=l.length:=⟨_,rfl⟩;rw [<-hn] at C1 C2 hl;rw [<-hn];have HN:=Zh_ hn;clear h1 h2 hn;go_enter func13,ntmps13;go_wp2_with fail
 go_loopw [13] (λ i wx=>∃ k:Nat,k<=n/\i=.int .i64 k/\Ze [] w wx) (λ i _=>n - (intOf i).toNat)
 case atStart=>exact ⟨0,by omega,rfl,Zr_ _ _⟩
 case round=>
  obtain ⟨k,hk,rfl,m⟩:=hrel;have HM:=Zh_ m
  by_cases hlt:k < n
  ·have d4:decide ((k:Int) < (n:Int))=true:=decide_eq_true (by omega);obtain ⟨g1,rfl,l1,c1⟩:=C1.out k (by omega);obtain ⟨g2,rfl,l2,c2⟩:=C2.out k (by omega);obtain ⟨x,hx⟩:∃ x,x=l.getD k 0:=⟨_,rfl⟩;have hkl:k < l.length:=by rw [<-HN.out];exact hlt
   rw [List.getElem?_map,List.getElem?_eq_getElem hkl] at c1 c2;rw [List.getD_eq_getElem?_getD,List.getElem?_eq_getElem hkl] at hx;simp only [Option.getD_some] at hx;simp only [Option.map_some] at c1 c2;rw [<-hx] at c1 c2;replace c1:=Zy m l1 (by simp) c1;replace c2:=Zy m l2 (by simp) c2;have r1:=Nq x;clear m hx hkl l1 l2;go_upto_region 6 with fail;go_quiet (fail);go_wp2_with fail;go_roundw
   case rel=>exact ⟨k+1,by omega,by go_num,HM.out.drewN _⟩
   case measure=>simp [intOf];omega
  ·have d4:decide ((k:Int) < (n:Int))=false:=decide_eq_false (by omega);clear m;go_wp2;go_ret;exact ⟨rfl,HM.out⟩
end
end Go.Proofs.YtkhonmhnchdpkaaGreat
