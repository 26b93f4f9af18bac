/- A part of the proof; no condition. -/
import Derived.Test.YtkhonmhnchdpkaaGreatB13
set_option maxRecDepth 100000
set_option maxHeartbeats 40000000
namespace Go.Proofs.YtkhonmhnchdpkaaGreat
open Go.RowKit _root_.Go.Proofs.Tryz
open Go renaming World→W
open Value renaming int→U,pointer→E,slice→L,float→Z,agg→A9,agg→A_
open IntKind renaming i64→Y,u64→Y_
open FloatKind renaming f64→V
open Obj renaming cells→X
open Option renaming some→I,none→O
open Ending renaming returned→R_
open _root_.Go.Proofs.Tryz renaming prog→N
open List renaming getD_eq_getElem?_getD→G_
section
variable {w w' w0 w1 w2:W} {a b:Nat} {s s':Zh} {n:Value}
theorem Xd.yv {q:WP} {x:Zv} (h:Xd w q a b x n s w') (hM:Zj 137 w a b s):Ze q.blocks w w':=by
 obtain ⟨r,h1,h2,h3,_⟩:=h;refine ⟨h3.md.os,h3.md.tape,h3.md.output,h3.md.size,λ k hk hn=>?_⟩
 by_cases ha:k=a
 ·subst ha;exact h2.hd.trans hM.hd.symm
 ·by_cases hb:k=b
  ·subst hb;exact h2.ws.trans hM.ws.symm
  ·exact h3.md.block k hk (by simp [ha,hb,hn])
theorem Xd.grS {q:WP} {x:Zv} (h:Xd w q a b x n s w'):∃ r,Zz w' r x/\Zj 137 w' a b s/\r.k=q.k/\r.nx=n/\∀ k∈r.blocks,k∈q.blocks\/w.heap.size<=k:=by
 obtain ⟨r,h1,h2,h3,h4,_,h6⟩:=h;refine ⟨r,h1,h2,h4,h6,λ k hk=>?_⟩;rcases h3.gr k (by simp [hk]) with hh|hh
 ·simp only [List.mem_cons] at hh;rcases hh with rfl|rfl|hh
  ·exact absurd hk (h1.zn h2)
  ·exact absurd hk (h1.zm h2)
  ·exact .inl hh
 ·exact .inr hh
theorem Qv.yv {q:RP} {x:Z8} (h:Qv w q a b x s w') (hM:Zj 137 w a b s):Ze q.blocks w w':=by
 obtain ⟨r,h1,h2,h3,_⟩:=h;refine ⟨h3.md.os,h3.md.tape,h3.md.output,h3.md.size,λ k hk hn=>?_⟩
 by_cases ha:k=a
 ·subst ha;exact h2.hd.trans hM.hd.symm
 ·by_cases hb:k=b
  ·subst hb;exact h2.ws.trans hM.ws.symm
  ·exact h3.md.block k hk (by simp [ha,hb,hn])
theorem Qv.grS {q:RP} {x:Z8} (h:Qv w q a b x s w'):∃ r,Yc w' r x/\Zj 137 w' a b s/\r.k=q.k/\∀ k∈r.blocks,k∈q.blocks\/w.heap.size<=k:=by
 obtain ⟨r,h1,h2,h3,h4,_⟩:=h;refine ⟨r,h1,h2,h4,λ k hk=>?_⟩;rcases h3.gr k (by simp [hk]) with hh|hh
 ·simp only [List.mem_cons] at hh;rcases hh with rfl|rfl|hh
  ·exact absurd hk (h1.zn h2)
  ·exact absurd hk (h1.zm h2)
  ·exact .inl hh
 ·exact .inr hh
theorem Xd.ue {q:WP} {x:Zv} (h:Xd w q a b x n s w1):∃ v cs,w1.heap[q.k]? =I (.cells cs 161 (0,0))/\cs[10]? =I v/\w1.ownsRow 0 51 1 v x.args.length (x.args.map (Z V))/\(∀ g,v.ownBlock=I g->g≠q.k)/\
  (∀ w5 w' v' y,Ze v.ownBlock.toList w1 w5->Jn w1 v v'->w5.ownsRow 0 51 1 v' (x.args.length+1) ((x.args++[y]).map (Z V))->w'=w5.setCell ⟨q.k,10,O⟩ v'->Xd w q a b {x with args:=x.args++[y]} n s w'):=by
 obtain ⟨r,h1,h2,h3,h4,h5,h6⟩:=h;have na:=h1.zn h2;have nb:=h1.zm h2;have kin:r.k∈r.blocks:=WP.mem.2 (.inl J);refine ⟨r.va,_,by rw [<-h4];exact h1.hd,J,h1.args,λ g hg=>by rw [<-h4];exact h1.rest (by simp [hg]),λ w5 w' v' y m5 ho hr hw'=>?_⟩;subst hw';have inw:∀ g∈r.va.ownBlock.toList,g∈r.blocks:=λ g hg=>WP.mem.2 (by simp at hg;simp [hg]);have nk:r.k∉r.va.ownBlock.toList:=λ hk=>h1.rest (g:=r.k) (by simp at hk;simp [hk]) J;have mk:Ze [r.k] w5 (w5.setCell ⟨q.k,10,O⟩ v'):=(Zr_ _ _).setCell _ _ (.inl (by simp [h4]));have m:Ze (r.k :: r.va.ownBlock.toList) w1 (w5.setCell ⟨q.k,10,O⟩ v'):=(m5.mono (λ g hg=>.inl (by simp at hg ⊢;simp [hg]))).trans (mk.mono (λ g hg=>.inl (by simp at hg ⊢;simp [hg])));have hd5:=m5.at h1.hd nk;have hdk:(w5.setCell ⟨q.k,10,O⟩ v').heap[r.k]? =I (.cells (Js {r with va:=v'} {x with args:=x.args++[y]}) 161 (0,0)):=by
  rw [h4] at hd5 ⊢
  exact Zd (i:=10) v' hd5
 have nv':∀ g,v'.ownBlock=I g->g≠r.k:=λ g hg e=>by
  subst e;have:=Zp hd5;rw [Yf hr hg] at this;exact absurd this (by decide)
 have out:∀ g,(g∈r.p.blocks\/r.vw.ownBlock=I g\/r.sc=I g\/r.bk=I g)->g∉r.k :: r.va.ownBlock.toList:=by
  intro g hg hm;simp only [List.mem_cons,Option.mem_toList] at hm;rcases hm with hm|hm
  ·exact h1.rest (g:=g) (by rcases hg with hg|hg|hg|hg <;> simp [hg]) hm
  ·have tg:=Yf h1.args hm;rcases hg with hg|hg|hg|hg
   ·exact (h1.na g hm).2 hg
   ·exact (h1.na g hm).1 hg
   ·rw [h1.scan.ty hg] at tg;exact absurd tg (by decide)
   ·rw [h1.back.ty hg] at tg;exact absurd tg (by decide)
 have new:∀ g,v'.ownBlock=I g->r.vw.ownBlock≠I g/\g∉r.p.blocks:=by
  intro g hg;rcases ho with ho|⟨g',ho,hge⟩
  ·exact h1.na g (ho ▸ hg)
  ·rw [ho] at hg;obtain rfl:=Zo_ hg;exact ⟨λ e=>by have:=Yr h1.ql e;omega,λ hk=>by have:=h1.za.lt hk;omega⟩
 refine ⟨{r with va:=v'},⟨hdk,h1.za.mod m (λ g hg=>out g (.inl hg)),?_,Zt h1.ql m (λ g hg=>out g (by simp [hg])),h1.scan.mod m (λ g hg=>out g (by simp [hg])),h1.back.mod m (λ g hg=>out g (by simp [hg])),new,h1.nw⟩,
  h2.mod m (λ hh=>na (by simp only [List.mem_cons] at hh;rcases hh with rfl|hh;exact kin;exact inw _ hh)) (λ hh=>nb (by simp only [List.mem_cons] at hh;rcases hh with rfl|hh;exact kin;exact inw _ hh)),
  h3.trans ⟨m.mono (λ g hg=>.inl (by simp only [List.mem_cons] at hg ⊢;rcases hg with rfl|hg;simp [kin];simp [inw g hg])),λ g hg=>?_⟩,h4,h5,h6⟩
 ·have:=Zt hr mk (λ g hg=>by simp [nv' g hg]);simpa using this
 ·simp only [List.mem_cons,WP.mem] at hg ⊢
  rcases hg with hg|hg|hg|hg|hg|hg|hg|hg
  ·simp [hg]
  ·simp [hg]
  ·simp [hg]
  ·simp [hg]
  ·rcases ho with ho|⟨g',ho,hge⟩
   ·rw [ho] at hg;simp [hg]
   ·rw [ho] at hg;obtain rfl:=Zo_ hg;exact .inr hge
  ·simp [hg]
  ·simp [hg]
  ·simp [hg]
theorem Qv.ue {q:RP} {x:Z8} (h:Qv w q a b x s w1):∃ v cs,w1.heap[q.k]? =I (.cells cs 168 (0,0))/\cs[8]? =I v/\w1.ownsRow 0 51 1 v x.args.length (x.args.map (Z V))/\(∀ g,v.ownBlock=I g->g≠q.k)/\
  (∀ w5 w' v' y,Ze v.ownBlock.toList w1 w5->Jn w1 v v'->w5.ownsRow 0 51 1 v' (x.args.length+1) ((x.args++[y]).map (Z V))->w'=w5.setCell ⟨q.k,8,O⟩ v'->Qv w q a b {x with args:=x.args++[y]} s w'):=by
 obtain ⟨r,h1,h2,h3,h4,h5,h6⟩:=h;have na:=h1.zn h2;have nb:=h1.zm h2;have kin:r.k∈r.blocks:=RP.mem.2 (.inl J);refine ⟨r.va,_,by rw [<-h4];exact h1.hd,J,h1.args,λ g hg=>by rw [<-h4];exact h1.rest (by simp [hg]),λ w5 w' v' y m5 ho hr hw'=>?_⟩;subst hw';have inw:∀ g∈r.va.ownBlock.toList,g∈r.blocks:=λ g hg=>RP.mem.2 (by simp at hg;simp [hg]);have nk:r.k∉r.va.ownBlock.toList:=λ hk=>h1.rest (g:=r.k) (by simp at hk;simp [hk]) J;have mk:Ze [r.k] w5 (w5.setCell ⟨q.k,8,O⟩ v'):=(Zr_ _ _).setCell _ _ (.inl (by simp [h4]));have m:Ze (r.k :: r.va.ownBlock.toList) w1 (w5.setCell ⟨q.k,8,O⟩ v'):=(m5.mono (λ g hg=>.inl (by simp at hg ⊢;simp [hg]))).trans (mk.mono (λ g hg=>.inl (by simp at hg ⊢;simp [hg])));have hd5:=m5.at h1.hd nk;have hdk:(w5.setCell ⟨q.k,8,O⟩ v').heap[r.k]? =I (.cells (Kd {r with va:=v'} {x with args:=x.args++[y]}) 168 (0,0)):=by
  rw [h4] at hd5 ⊢
  exact Zd (i:=8) v' hd5
 have nv':∀ g,v'.ownBlock=I g->g≠r.k:=λ g hg e=>by
  subst e;have:=Zp hd5;rw [Yf hr hg] at this;exact absurd this (by decide)
 have out:∀ g,(g=r.cm\/g∈r.p.blocks\/r.rd=I g)->g∉r.k :: r.va.ownBlock.toList:=by
  intro g hg hm;simp only [List.mem_cons,Option.mem_toList] at hm;rcases hm with hm|hm
  ·exact h1.rest (g:=g) (by rcases hg with hg|hg|hg <;> simp [hg]) hm
  ·have tg:=Yf h1.args hm;rcases hg with hg|hg|hg
   ·rw [hg,Zp h1.qh] at tg;exact absurd tg (by decide)
   ·exact h1.na g hm hg
   ·rw [h1.read.ty hg] at tg;exact absurd tg (by decide)
 have new:∀ g,v'.ownBlock=I g->g∉r.p.blocks:=by
  intro g hg;rcases ho with ho|⟨g',ho,hge⟩
  ·exact h1.na g (ho ▸ hg)
  ·rw [ho] at hg;obtain rfl:=Zo_ hg;exact λ hk=>by have:=h1.za.lt hk;omega
 refine ⟨{r with va:=v'},⟨hdk,h1.za.mod m (λ g hg=>out g (by simp [hg])),?_,m.at h1.qh (out _ (by simp)),h1.read.mod m (λ g hg=>out g (by simp [hg])),new⟩,
  h2.mod m (λ hh=>na (by simp only [List.mem_cons] at hh;rcases hh with rfl|hh;exact kin;exact inw _ hh)) (λ hh=>nb (by simp only [List.mem_cons] at hh;rcases hh with rfl|hh;exact kin;exact inw _ hh)),
  h3.trans ⟨m.mono (λ g hg=>.inl (by simp only [List.mem_cons] at hg ⊢;rcases hg with rfl|hg;simp [kin];simp [inw g hg])),λ g hg=>?_⟩,h4,h5,h6⟩
 ·have:=Zt hr mk (λ g hg=>by simp [nv' g hg]);simpa using this
 ·simp only [List.mem_cons,RP.mem] at hg ⊢
  rcases hg with hg|hg|hg|hg|hg|hg|hg
  ·simp [hg]
  ·simp [hg]
  ·simp [hg]
  ·simp [hg]
  ·simp [hg]
  ·rcases ho with ho|⟨g',ho,hge⟩
   ·rw [ho] at hg;simp [hg]
   ·rw [ho] at hg;obtain rfl:=Zo_ hg;exact .inr hge
  ·simp [hg]
end
section
attribute [local go_sem] Zi
def Ts (n0:Nat) (q:WP) (x:Zv):Nat->Value->W->Prop
 |0,v,_=>v=E (I ⟨q.k,0,O⟩)
 |1,v,_=>v=E (I ⟨q.k,0,O⟩)
 |2,v,_=>v=E (I ⟨q.k,9,O⟩)
 |3,v,_=>v=U Y x.tag
 |4,v,_=>v=E (I ⟨q.k,0,O⟩)
 |5,v,_=>v=E (I ⟨q.k,0,O⟩)
 |6,v,_=>v=E (I ⟨q.k,10,O⟩)
 |7,v,_=>v=q.va
 |8,v,w=>Yb n0 51 1 x.args.length (x.args.map (Z V)) v w
 |9,v,_=>v=E (I ⟨q.k,0,O⟩)
 |10,v,_=>v=E (I ⟨q.k,0,O⟩)
 |11,v,_=>v=E (I ⟨q.k,15,O⟩)
 |12,v,_=>v=U Y x.number
 |13,v,_=>v=E (I ⟨q.k,0,O⟩)
 |14,v,_=>v=E (I ⟨q.k,0,O⟩)
 |15,v,_=>v=E (I ⟨q.k,7,O⟩)
 |16,v,_=>v=E (I ⟨q.p.mb,0,O⟩)
 |17,v,w=>Yb n0 53 2 x.m.reads.length (Yj x.m.reads) v w
 |18,v,_=>v=E (I ⟨q.k,0,O⟩)
 |19,v,_=>v=E (I ⟨q.k,0,O⟩)
 |20,v,_=>v=E (I ⟨q.k,7,O⟩)
 |21,v,_=>v=E (I ⟨q.p.mb,0,O⟩)
 |22,v,w=>Yb n0 53 2 x.m.buf.order.length (Yj x.m.buf.all) v w
 |23,v,_=>v=E (I ⟨q.k,0,O⟩)
 |24,v,_=>v=E (I ⟨q.k,0,O⟩)
 |25,v,_=>v=E (I ⟨q.k,7,O⟩)
 |26,v,_=>v=E (I ⟨q.p.mb,0,O⟩)
 |27,v,w=>Yb n0 51 1 x.m.out.length (x.m.out.map (Z V)) v w
 |28,v,_=>v=E (I ⟨q.k,0,O⟩)
 |29,v,_=>v=E (I ⟨q.k,0,O⟩)
 |30,v,_=>v=E (I ⟨q.k,12,O⟩)
 |31,v,_=>v=U Y q.st
 |32,v,w=>Km n0 x.tag (-1) x.number q.st x.args x.m v w
 |33,v,w=>Vq n0 v w
 |_,_,_=>True
theorem Ou (n0:Nat) (q:WP) (x:Zv) (i:Nat) (v:Value) (w w':W) (h:Ts n0 q x i v w) (m:Ze [] w w'):Ts n0 q x i v w':=by
 match i,h with
 |0,h=>exact h
 |1,h=>exact h
 |2,h=>exact h
 |3,h=>exact h
 |4,h=>exact h
 |5,h=>exact h
 |6,h=>exact h
 |7,h=>exact h
 |8,h=>exact Yb.mod h m
 |9,h=>exact h
 |10,h=>exact h
 |11,h=>exact h
 |12,h=>exact h
 |13,h=>exact h
 |14,h=>exact h
 |15,h=>exact h
 |16,h=>exact h
 |17,h=>exact Yb.mod h m
 |18,h=>exact h
 |19,h=>exact h
 |20,h=>exact h
 |21,h=>exact h
 |22,h=>exact Yb.mod h m
 |23,h=>exact h
 |24,h=>exact h
 |25,h=>exact h
 |26,h=>exact h
 |27,h=>exact Yb.mod h m
 |28,h=>exact h
 |29,h=>exact h
 |30,h=>exact h
 |31,h=>exact h
 |32,h=>exact Km.mod h m
 |33,h=>exact Vq.mod h m
 |i+34,h=>trivial
theorem Rz (n0:Nat) (q:WP) (x:Zv) (i:Nat) (h:34<=i) (v:Value) (w:W):Ts n0 q x i v w:=by
 match i,h with
 |j+34,_=>trivial
variable {w w' w0 w1 w2:W} {p p':MP} {q q':WP} {x x':Zv} {m:Zk} {a b:Nat} {s s':Zh} {S:List Nat}
theorem A9 (h:Zz w q x) (ok:Ym x.m) (hal:x.args.length<=4096):Calls N 227 #[E (I ⟨q.k,0,O⟩)] w (Gk w x.told):=by
 have HR0:=Zh_ (λ (wx:W) (D:Ze [] w wx)=>h.mod D (by simp));have HRD:=Zh_ (λ (w1 wx:W) (m1:Ze [] w w1) (hR:Ze [] w1.drew wx)=>h.mod ((m1.drew).trans hR) (by simp));have ZD:=Zh_ (heap_alloc_new w (.cells Yd 50));have HN:=Zh_ (show w.heap.size < (w.alloc (.cells Yd 50)).heap.size by simp);have m1:Ze [] w (w.alloc (.cells Yd 50)):=(Zr_ _ _).alloc _;clear h;go_enter func227,ntmps227;go_upto_region 1 with fail;change Code.wp _ _ _ _ (w.alloc (.cells Yd 50));generalize w.alloc (.cells Yd 50)=w1 at *
 have M1:=Zh_ m1;replace HRD:=Zh_ (λ (wx:W) (hR:Ze [] w1.drew wx)=>HRD.out w1 wx M1.out hR);obtain ⟨n0,hq0⟩:∃ n,n=w1.heap.size:=⟨_,J⟩;have hn0:n0<=w1.drew.heap.size:=Nat.le_of_eq hq0;replace HN:=Zh_ (show w.heap.size < n0 by rw [hq0];exact HN.out);clear m1 hq0
 go_cut [3] (λ A wx=>As n0 x.tag (-1) x.number q.st x.args x.m A wx/\Ze [] w wx/\wx.heap[w.heap.size]? =I (.cells Yd 50 (0,0)))
 case first=>
  refine Yt (by kernel_rfl) 34 (by rfl) (λ x y=>Ze [] x y) (Ts n0 q x) (by kernel_rfl) (by rfl) (by kernel_rfl) (Ou n0 q x) (λ a=>Zr_ _ _) (λ a b c h k=>h.trans k) ?_ ?_ ?_
  ·exact λ i v w' hv o ho hd=>Vi (m:=34) (by kernel_rfl) (Rz n0 q x) ho hd
  ·intro i o hi ho
   match i,hi with
   |0,_=>obtain rfl:=Zo_ ho;intro a wx hR hF hO;have e0:=To_ hO 0 (E (I ⟨q.k,0,O⟩));clear hF hO;go_simp;exact ⟨Zr_ _ _,J⟩
   |1,_=>obtain rfl:=Zo_ ho;intro a wx hR hF hO;have e4:=Tf_ hF 4 0 (E (I ⟨q.k,0,O⟩));clear hF hO;go_simp;exact ⟨Zr_ _ _,J⟩
   |2,_=>obtain rfl:=Zo_ ho;intro a wx hR hF hO;have e5:=Tf_ hF 5 1 (E (I ⟨q.k,0,O⟩));clear hF hO;go_simp;exact ⟨Zr_ _ _,J⟩
   |3,_=>obtain rfl:=Zo_ ho;intro a wx hR hF hO;have e6:=Tf_ hF 6 2 (E (I ⟨q.k,9,O⟩));clear hF hO;have c0:=((HRD.out wx hR).cell 9 (u:=U Y x.tag) J).1;go_simp;exact ⟨Zr_ _ _,J⟩
   |4,_=>obtain rfl:=Zo_ ho;intro a wx hR hF hO;have e0:=To_ hO 0 (E (I ⟨q.k,0,O⟩));clear hF hO;go_simp;exact ⟨Zr_ _ _,J⟩
   |5,_=>obtain rfl:=Zo_ ho;intro a wx hR hF hO;have e8:=Tf_ hF 8 4 (E (I ⟨q.k,0,O⟩));clear hF hO;go_simp;exact ⟨Zr_ _ _,J⟩
   |6,_=>obtain rfl:=Zo_ ho;intro a wx hR hF hO;have e9:=Tf_ hF 9 5 (E (I ⟨q.k,0,O⟩));clear hF hO;go_simp;exact ⟨Zr_ _ _,J⟩
   |7,_=>obtain rfl:=Zo_ ho;intro a wx hR hF hO;have e10:=Tf_ hF 10 6 (E (I ⟨q.k,10,O⟩));clear hF hO;have c0:=((HRD.out wx hR).cell 10 (u:=q.va) J).1;go_simp;exact ⟨Zr_ _ _,J⟩
   |8,_=>
    obtain rfl:=Zo_ ho;intro a wx hR hF hO;have f11:a.eval (.tmp 11)=q.va:=hF 11 7 _ (by kernel_rfl) J J;have e11:=Tv_ f11;clear hF hO;rcases (HRD.out wx hR).args.2 with ⟨hv,h0⟩|⟨g,cap,cur,hv,-,-⟩
    ·rw [hv] at e11;clear f11;go_simp;have h00:x.args=[]:=List.eq_nil_of_length_eq_zero h0;exact ⟨Zr_ _ _,by rw [h00];exact World.ownsRow_nil _ _ _ _,by simp [Value.ownBlock]⟩
    ·have ho:=(HRD.out wx hR).args;rw [hv] at ho;rw [hv] at f11;clear e11;have hcs:=ho.cells (g:=g) J;obtain ⟨i0,hi0,hz0,hz1,hz2⟩:=info_parts Up;refine Y2 _ _ 24 J 0 51 i0 (Z V 0) 1 8 underlying24 hi0 hz0 hz1 hz2 J (by decide) (L O 0 0) 0 [] J (World.ownsRow_nil _ _ _ _) ⟨g,0,O⟩ x.args.length cap (x.args.map (Z V)) f11 (by simp) hcs (by intro u hu;simp at hu;obtain ⟨a,_,rfl⟩:=hu;rfl) (by unfold maxLen;omega) (by omega) (Nat.zero_le _) ?_;intro v' w' h2 h3 h5;have hc:=Vl.of (t:=51) (z:=1) (by simpa using h2) h3 h5;obtain ⟨u,hu,hm,hr⟩:=Yb.copied hc (Nat.le_trans hn0 hR.size);obtain rfl:=Ending.returned.inj hu;exact ⟨hm,hr⟩
   |9,_=>obtain rfl:=Zo_ ho;intro a wx hR hF hO;have e0:=To_ hO 0 (E (I ⟨q.k,0,O⟩));clear hF hO;go_simp;exact ⟨Zr_ _ _,J⟩
   |10,_=>obtain rfl:=Zo_ ho;intro a wx hR hF hO;have e13:=Tf_ hF 13 9 (E (I ⟨q.k,0,O⟩));clear hF hO;go_simp;exact ⟨Zr_ _ _,J⟩
   |11,_=>obtain rfl:=Zo_ ho;intro a wx hR hF hO;have e14:=Tf_ hF 14 10 (E (I ⟨q.k,0,O⟩));clear hF hO;go_simp;exact ⟨Zr_ _ _,J⟩
   |12,_=>obtain rfl:=Zo_ ho;intro a wx hR hF hO;have e15:=Tf_ hF 15 11 (E (I ⟨q.k,15,O⟩));clear hF hO;have c0:=((HRD.out wx hR).cell 15 (u:=U Y x.number) J).1;go_simp;exact ⟨Zr_ _ _,J⟩
   |13,_=>obtain rfl:=Zo_ ho;intro a wx hR hF hO;have e0:=To_ hO 0 (E (I ⟨q.k,0,O⟩));clear hF hO;go_simp;exact ⟨Zr_ _ _,J⟩
   |14,_=>obtain rfl:=Zo_ ho;intro a wx hR hF hO;have e17:=Tf_ hF 17 13 (E (I ⟨q.k,0,O⟩));clear hF hO;go_simp;exact ⟨Zr_ _ _,J⟩
   |15,_=>obtain rfl:=Zo_ ho;intro a wx hR hF hO;have e18:=Tf_ hF 18 14 (E (I ⟨q.k,0,O⟩));clear hF hO;go_simp;exact ⟨Zr_ _ _,J⟩
   |16,_=>obtain rfl:=Zo_ ho;intro a wx hR hF hO;have e19:=Tf_ hF 19 15 (E (I ⟨q.k,7,O⟩));clear hF hO;have c0:=((HRD.out wx hR).cell 7 (u:=E (I ⟨q.p.mb,0,O⟩)) J).1;go_simp;exact ⟨Zr_ _ _,J⟩
   |17,_=>obtain rfl:=Zo_ ho;intro a wx hR hF hO;have e20:=Tf_ hF 20 16 (E (I ⟨q.p.mb,0,O⟩));clear hF hO;go_simp;refine Calls.mono (Wm (HRD.out wx hR).za (Fm ok)) ?_;rintro e w' hc;obtain ⟨u,rfl,hm,hr⟩:=Yb.copied hc (Nat.le_trans hn0 hR.size);exact ⟨u,J,hm,hr⟩
   |18,_=>obtain rfl:=Zo_ ho;intro a wx hR hF hO;have e0:=To_ hO 0 (E (I ⟨q.k,0,O⟩));clear hF hO;go_simp;exact ⟨Zr_ _ _,J⟩
   |19,_=>obtain rfl:=Zo_ ho;intro a wx hR hF hO;have e22:=Tf_ hF 22 18 (E (I ⟨q.k,0,O⟩));clear hF hO;go_simp;exact ⟨Zr_ _ _,J⟩
   |20,_=>obtain rfl:=Zo_ ho;intro a wx hR hF hO;have e23:=Tf_ hF 23 19 (E (I ⟨q.k,0,O⟩));clear hF hO;go_simp;exact ⟨Zr_ _ _,J⟩
   |21,_=>obtain rfl:=Zo_ ho;intro a wx hR hF hO;have e24:=Tf_ hF 24 20 (E (I ⟨q.k,7,O⟩));clear hF hO;have c0:=((HRD.out wx hR).cell 7 (u:=E (I ⟨q.p.mb,0,O⟩)) J).1;go_simp;exact ⟨Zr_ _ _,J⟩
   |22,_=>obtain rfl:=Zo_ ho;intro a wx hR hF hO;have e25:=Tf_ hF 25 21 (E (I ⟨q.p.mb,0,O⟩));clear hF hO;go_simp;refine Calls.mono (Dy (HRD.out wx hR).za ok.order) ?_;rintro e w' hc;obtain ⟨u,rfl,hm,hr⟩:=Yb.copied hc (Nat.le_trans hn0 hR.size);exact ⟨u,J,hm,hr⟩
   |23,_=>obtain rfl:=Zo_ ho;intro a wx hR hF hO;have e0:=To_ hO 0 (E (I ⟨q.k,0,O⟩));clear hF hO;go_simp;exact ⟨Zr_ _ _,J⟩
   |24,_=>obtain rfl:=Zo_ ho;intro a wx hR hF hO;have e27:=Tf_ hF 27 23 (E (I ⟨q.k,0,O⟩));clear hF hO;go_simp;exact ⟨Zr_ _ _,J⟩
   |25,_=>obtain rfl:=Zo_ ho;intro a wx hR hF hO;have e28:=Tf_ hF 28 24 (E (I ⟨q.k,0,O⟩));clear hF hO;go_simp;exact ⟨Zr_ _ _,J⟩
   |26,_=>obtain rfl:=Zo_ ho;intro a wx hR hF hO;have e29:=Tf_ hF 29 25 (E (I ⟨q.k,7,O⟩));clear hF hO;have c0:=((HRD.out wx hR).cell 7 (u:=E (I ⟨q.p.mb,0,O⟩)) J).1;go_simp;exact ⟨Zr_ _ _,J⟩
   |27,_=>obtain rfl:=Zo_ ho;intro a wx hR hF hO;have e30:=Tf_ hF 30 26 (E (I ⟨q.p.mb,0,O⟩));clear hF hO;go_simp;refine Calls.mono (out_c (HRD.out wx hR).za (out_le ok)) ?_;rintro e w' hc;obtain ⟨u,rfl,hm,hr⟩:=Yb.copied hc (Nat.le_trans hn0 hR.size);exact ⟨u,J,hm,hr⟩
   |28,_=>obtain rfl:=Zo_ ho;intro a wx hR hF hO;have e0:=To_ hO 0 (E (I ⟨q.k,0,O⟩));clear hF hO;go_simp;exact ⟨Zr_ _ _,J⟩
   |29,_=>obtain rfl:=Zo_ ho;intro a wx hR hF hO;have e32:=Tf_ hF 32 28 (E (I ⟨q.k,0,O⟩));clear hF hO;go_simp;exact ⟨Zr_ _ _,J⟩
   |30,_=>obtain rfl:=Zo_ ho;intro a wx hR hF hO;have e33:=Tf_ hF 33 29 (E (I ⟨q.k,0,O⟩));clear hF hO;go_simp;exact ⟨Zr_ _ _,J⟩
   |31,_=>obtain rfl:=Zo_ ho;intro a wx hR hF hO;have e34:=Tf_ hF 34 30 (E (I ⟨q.k,12,O⟩));clear hF hO;have c0:=((HRD.out wx hR).cell 12 (u:=U Y q.st) J).1;go_simp;exact ⟨Zr_ _ _,J⟩
   |32,_=>obtain rfl:=Zo_ ho;intro a wx hR hF hO;have e7:=Tf_ hF 7 3 (U Y x.tag);have e12:Yb n0 51 1 x.args.length (x.args.map (Z V)) (a.eval (.tmp 12)) wx:=hF 12 8 _ (by kernel_rfl) J J;have e16:=Tf_ hF 16 12 (U Y x.number);have e21:Yb n0 53 2 x.m.reads.length (Yj x.m.reads) (a.eval (.tmp 21)) wx:=hF 21 17 _ (by kernel_rfl) J J;have e26:Yb n0 53 2 x.m.buf.order.length (Yj x.m.buf.all) (a.eval (.tmp 26)) wx:=hF 26 22 _ (by kernel_rfl) J J;have e31:Yb n0 51 1 x.m.out.length (x.m.out.map (Z V)) (a.eval (.tmp 31)) wx:=hF 31 27 _ (by kernel_rfl) J J;have e35:=Tf_ hF 35 31 (U Y q.st);clear hF hO;rw [show a.eval (.tmp 12)=a.tmps[12]?.getD undef by simp [Act.eval]] at e12;have r12:=Zh_ e12;obtain ⟨b12,k12,q12⟩:=Zo e12.1;rw [show a.eval (.tmp 21)=a.tmps[21]?.getD undef by simp [Act.eval]] at e21;have r21:=Zh_ e21;obtain ⟨b21,k21,q21⟩:=Zo e21.1;rw [show a.eval (.tmp 26)=a.tmps[26]?.getD undef by simp [Act.eval]] at e26;have r26:=Zh_ e26;obtain ⟨b26,k26,q26⟩:=Zo e26.1;rw [show a.eval (.tmp 31)=a.tmps[31]?.getD undef by simp [Act.eval]] at e31;have r31:=Zh_ e31;obtain ⟨b31,k31,q31⟩:=Zo e31.1;clear e12 e21 e26 e31;go_simp;exact ⟨Zr_ _ _,_,_,_,_,J,by have:=r12.out;rw [q12] at this;exact this,by have:=r21.out;rw [q21] at this;exact this,by have:=r26.out;rw [q26] at this;exact this,by have:=r31.out;rw [q31] at this;exact this⟩
   |33,_=>obtain rfl:=Zo_ ho;intro a wx hR hF hO;clear hF hO;go_simp;exact ⟨(Zr_ _ _).alloc _,_,J,heap_alloc_new _ _,Nat.le_trans hn0 hR.size⟩
   |j+34,hh=>omega
  ·intro vs w2 hR hv;obtain ⟨g5,e5,k5,hg5⟩:Vq n0 (vs 33) w2:=hv 33 (by decide);obtain ⟨va,vr,vw,vo,e35,ra,rr,rw',ro⟩:Km n0 x.tag (-1) x.number q.st x.args x.m (vs 32) w2:=hv 32 (by decide);have FIN:=Zh_ (L5 (tag:=x.tag) (mark:=-1) (num:=x.number) (st:=q.st) M1.out hR (Nat.le_of_lt HN.out) k5 hg5 ra rr rw' ro);have K5:=Zh_ k5;have M2:=Zh_ ((Zr_ [] w1).drew.trans hR);have NEg:=Zh_ (show w.heap.size≠g5 from λ e=>by have:=HN.out;omega);have ONE:=Zh_ (Ma (tag:=x.tag) (mark:=-1) (num:=x.number) (st:=q.st) (Y7 ra.1) (Y7 rr.1) (Y7 rw'.1) (Y7 ro.1));clear hg5 ra rr rw' ro hR k5;simp only [Yx,List.take_succ_cons,List.take_zero,Act.put,e5,e35];go_simp;refine wpList_store_row J 50 _ _ J g5 (Jt x.tag (-1) x.number q.st va vr vw vo) J J 50 Yd K5.out (by kernel_rfl) J ONE.out ?_;go_wp2_with fail;go_meet;exact ⟨FIN.out.1,FIN.out.2,(setRow_other _ _ _ _ NEg.out).trans ((M2.out).at ZD.out (by simp))⟩
 case rest=>
  obtain ⟨⟨g5,va,vr,vw,vo,rfl,K5,hg5,ra,rr,rw',ro⟩,mc,z6⟩:=hcut;have NE:=Zh_ (show g5≠w.heap.size from λ e=>by have:=HN.out;omega);have ONE:=Zh_ (λ (a b c d:Int)=>F9 (tag:=x.tag) (mark:=d) (num:=x.number) (st:=q.st) (a:=a) (b:=b) (c:=c) (Y7 ra.1) (Y7 rr.1) (Y7 rw'.1) (Y7 ro.1));have RA:=Zh_ ra;have RR:=Zh_ rr;have RW:=Zh_ rw';have RO:=Zh_ ro;have HG:=Zh_ hg5;have KD:=Zh_ K5;have MC:=Zh_ mc;have Z0:=Zh_ z6;clear K5 hg5 ra rr rw' ro mc z6;have HRc:=HR0.out _ MC.out;have c11:=(HRc.cell 11 (u:=U Y x.part) J).1;have hlt:=B9 HRc.hd
  by_cases h1:1 < x.part
  ·have d1:decide (1 < x.part)=true:=decide_eq_true h1;have c13:=(HRc.cell 13 (u:=U Y_ x.qc) J).1;have b5:=Za (i:=5) KD.out J;have y5:=Zb (i:=5) KD.out;have l5:=B9 KD.out;have m7:Ze [g5] wc (wc.setCell ⟨g5,5,O⟩ (U Y (wrap64 x.qc))):=(Zr_ _ _).xw _ _;have K7:=Zh_ (show (wc.setCell ⟨g5,5,O⟩ (U Y (wrap64 x.qc))).heap[g5]? =I (.cells (Jt x.tag (wrap64 x.qc) x.number q.st va vr vw vo) 50 (0,0)) from Zd _ KD.out);have RA7:=Zh_ (RA.out.zy KD.out (by decide) m7);have RR7:=Zh_ (RR.out.zy KD.out (by decide) m7);have RW7:=Zh_ (RW.out.zy KD.out (by decide) m7);have RO7:=Zh_ (RO.out.zy KD.out (by decide) m7);have Z7:=Zh_ (m7.at Z0.out (by have:=NE.out;simp;omega));have M7:=Zh_ (MC.out.then m7 (λ k hk=>.inr (by have:=HN.out;have:=HG.out;simp at hk;omega)));clear m7 HRc;go_upto_region 4 with fail;clear c11 c13 b5 y5 l5 hlt;generalize (wc.setCell ⟨g5,5,O⟩ (U Y (wrap64 x.qc)))=w7 at *
   have HRc:=HR0.out _ M7.out;have c11:=(HRc.cell 11 (u:=U Y x.part) J).1;have c7:=(HRc.cell 7 (u:=E (I ⟨q.p.mb,0,O⟩)) J).1;have hlt:=B9 HRc.hd
   by_cases hp:x.part=9
   ·have d9:(x.part==9)=true:=by simp [hp]
    have hc:=end_c HRc.za;clear HRc;go_wp2_with fail;refine hc.mono ?_;rintro e w5 ⟨rfl,m5⟩;have KD5:=m5.at K7.out (by simp);have b10:=Za (i:=10) KD5 J;have b11:=Za (i:=11) KD5 J;have b12:=Za (i:=12) KD5 J;have y10:=Zb (i:=10) KD5;have y11:=Zb (i:=11) KD5;have y12:=Zb (i:=12) KD5;have l5:=B9 KD5;have mm5:Ze [g5] w5 (((w5.setCell ⟨g5,10,O⟩ (U Y x.m.qq)).setCell ⟨g5,11,O⟩ (U Y x.m.qn)).setCell ⟨g5,12,O⟩ (U Y x.m.zd)):=(((Zr_ _ _).xw _ _).xw _ _).xw _ _;have K6:=Zh_ (show (((w5.setCell ⟨g5,10,O⟩ (U Y x.m.qq)).setCell ⟨g5,11,O⟩ (U Y x.m.qn)).setCell ⟨g5,12,O⟩ (U Y x.m.zd)).heap[g5]? =I (.cells (Qk x.tag (wrap64 x.qc) x.number q.st x.m.qq x.m.qn x.m.zd va vr vw vo) 50 (0,0)) from Zd _ (Zd _ (Zd _ KD5)));have RA6:=Zh_ ((RA7.out.mod m5).zy KD5 (by decide) mm5);have RR6:=Zh_ ((RR7.out.mod m5).zy KD5 (by decide) mm5);have RW6:=Zh_ ((RW7.out.mod m5).zy KD5 (by decide) mm5);have RO6:=Zh_ ((RO7.out.mod m5).zy KD5 (by decide) mm5);have Z6:=Zh_ (mm5.at (m5.at Z7.out (by simp)) (by have:=NE.out;simp;omega));have M6:=Zh_ ((M7.out.trans m5).then mm5 (λ k hk=>.inr (by have:=HN.out;have:=HG.out;simp at hk;omega)));clear mm5 KD5 m5 hc c11 c7;go_upto_region 6 with fail;refine wp_region_lit ?_;refine wpList_load_row J 50 _ J g5 J 50 (Qk x.tag (wrap64 x.qc) x.number q.st x.m.qq x.m.qn x.m.zd va vr vw vo) (0,0) _ K6.out underlying50 J (by kernel_rfl) ?_;refine wpList_store_row J 50 _ _ J w.heap.size (Qk x.tag (wrap64 x.qc) x.number q.st x.m.qq x.m.qn x.m.zd va vr vw vo) J J 50 Yd Z6.out (by kernel_rfl) J (ONE.out _ _ _ _) ?_;generalize (((w5.setCell ⟨g5,10,O⟩ (U Y x.m.qq)).setCell ⟨g5,11,O⟩ (U Y x.m.qn)).setCell ⟨g5,12,O⟩ (U Y x.m.zd))=w6 at *
    go_wp2_with fail;refine bodyPost_ret (v:=.agg (Qk x.tag (wrap64 x.qc) x.number q.st x.m.qq x.m.qn x.m.zd va vr vw vo)) (results_cell_row (P:=N) (fn:=Tryz.f227) (p:=2) (ty:=50) J _ _ w.heap.size 50 _ (0,0) _ J (Y0 Z6.out) underlying50 J (by kernel_rfl)) J ?_;have mm:Ze [w.heap.size] w6 (w6.setRow w.heap.size (Qk x.tag (wrap64 x.qc) x.number q.st x.m.qq x.m.qn x.m.zd va vr vw vo)):=(Zr_ _ _).setRow _ _ (.inl (by simp));have le:=Nat.le_of_lt HN.out;have ht:x.told=⟨0,0,0,x.tag,x.args,(wrap64 x.qc),x.number,x.m.reads,x.m.buf.all,x.m.out,x.m.qq,x.m.qn,x.m.zd,0,0⟩:=by unfold Zv.told;simp [hp]
    rw [ht];exact ⟨_,_,_,_,_,J,(RA6.out.qj le).zy Z6.out (by decide) mm,(RR6.out.qj le).zy Z6.out (by decide) mm,(RW6.out.qj le).zy Z6.out (by decide) mm,(RO6.out.qj le).zy Z6.out (by decide) mm,M6.out.then mm (λ k hk=>.inr (by simp at hk;omega))⟩
   ·have d9:(x.part==9)=false:=by simp [hp]
    have K6:=Zh_ (show w7.heap[g5]? =I (.cells (Qk x.tag (wrap64 x.qc) x.number q.st 0 0 0 va vr vw vo) 50 (0,0)) from K7.out);have RA6:=RA7;have RR6:=RR7;have RW6:=RW7;have RO6:=RO7;have Z6:=Z7;have M6:=M7;clear HRc;go_upto_region 6 with fail;refine wp_region_lit ?_;refine wpList_load_row J 50 _ J g5 J 50 (Qk x.tag (wrap64 x.qc) x.number q.st 0 0 0 va vr vw vo) (0,0) _ K6.out underlying50 J (by kernel_rfl) ?_;refine wpList_store_row J 50 _ _ J w.heap.size (Qk x.tag (wrap64 x.qc) x.number q.st 0 0 0 va vr vw vo) J J 50 Yd Z6.out (by kernel_rfl) J (ONE.out _ _ _ _) ?_;go_wp2_with fail;refine bodyPost_ret (v:=.agg (Qk x.tag (wrap64 x.qc) x.number q.st 0 0 0 va vr vw vo)) (results_cell_row (P:=N) (fn:=Tryz.f227) (p:=2) (ty:=50) J _ _ w.heap.size 50 _ (0,0) _ J (Y0 Z6.out) underlying50 J (by kernel_rfl)) J ?_;have mm:Ze [w.heap.size] w7 (w7.setRow w.heap.size (Qk x.tag (wrap64 x.qc) x.number q.st 0 0 0 va vr vw vo)):=(Zr_ _ _).setRow _ _ (.inl (by simp));have le:=Nat.le_of_lt HN.out;have ht:x.told=⟨0,0,0,x.tag,x.args,(wrap64 x.qc),x.number,x.m.reads,x.m.buf.all,x.m.out,0,0,0,0,0⟩:=by unfold Zv.told;simp [hp,h1]
    rw [ht];exact ⟨_,_,_,_,_,J,(RA6.out.qj le).zy Z6.out (by decide) mm,(RR6.out.qj le).zy Z6.out (by decide) mm,(RW6.out.qj le).zy Z6.out (by decide) mm,(RO6.out.qj le).zy Z6.out (by decide) mm,M6.out.then mm (λ k hk=>.inr (by simp at hk;omega))⟩
  ·have H1:=Zh_ h1;have d1:decide (1 < x.part)=false:=D9 h1;have hp:x.part≠9:=by omega
   have d9:(x.part==9)=false:=by simp [hp]
   have K6:=Zh_ (show wc.heap[g5]? =I (.cells (Qk x.tag (-1) x.number q.st 0 0 0 va vr vw vo) 50 (0,0)) from KD.out);have RA6:=RA;have RR6:=RR;have RW6:=RW;have RO6:=RO;have Z6:=Z0;have M6:=MC;clear HRc;go_upto_region 6 with fail;refine wp_region_lit ?_;refine wpList_load_row J 50 _ J g5 J 50 (Qk x.tag (-1) x.number q.st 0 0 0 va vr vw vo) (0,0) _ K6.out underlying50 J (by kernel_rfl) ?_;refine wpList_store_row J 50 _ _ J w.heap.size (Qk x.tag (-1) x.number q.st 0 0 0 va vr vw vo) J J 50 Yd Z6.out (by kernel_rfl) J (ONE.out _ _ _ _) ?_;go_wp2_with fail;refine bodyPost_ret (v:=.agg (Qk x.tag (-1) x.number q.st 0 0 0 va vr vw vo)) (results_cell_row (P:=N) (fn:=Tryz.f227) (p:=2) (ty:=50) J _ _ w.heap.size 50 _ (0,0) _ J (Y0 Z6.out) underlying50 J (by kernel_rfl)) J ?_;have mm:Ze [w.heap.size] wc (wc.setRow w.heap.size (Qk x.tag (-1) x.number q.st 0 0 0 va vr vw vo)):=(Zr_ _ _).setRow _ _ (.inl (by simp));have le:=Nat.le_of_lt HN.out;have ht:x.told=⟨0,0,0,x.tag,x.args,(-1),x.number,x.m.reads,x.m.buf.all,x.m.out,0,0,0,0,0⟩:=by unfold Zv.told;rw [Q9 (by have:=H1.out;omega)];simp [hp]
   rw [ht];exact ⟨_,_,_,_,_,J,(RA6.out.qj le).zy Z6.out (by decide) mm,(RR6.out.qj le).zy Z6.out (by decide) mm,(RW6.out.qj le).zy Z6.out (by decide) mm,(RO6.out.qj le).zy Z6.out (by decide) mm,M6.out.then mm (λ k hk=>.inr (by simp at hk;omega))⟩
end
section
attribute [local go_sem] Zi
def Ty (n0:Nat) (q:RP) (x:Z8):Nat->Value->W->Prop
 |0,v,_=>v=E (I ⟨q.k,0,O⟩)
 |1,v,_=>v=E (I ⟨q.k,0,O⟩)
 |2,v,_=>v=E (I ⟨q.k,0,O⟩)
 |3,v,_=>v=E (I ⟨q.k,0,O⟩)
 |4,v,_=>v=E (I ⟨q.k,0,O⟩)
 |5,v,_=>v=E (I ⟨q.k,12,O⟩)
 |6,v,_=>v=E (I ⟨q.cm,0,O⟩)
 |7,v,_=>v=U Y_ x.qh.st
 |8,v,_=>v=U Y (wrap64 x.qh.st)
 |9,v,w=>Mf n0 {x.told with mark:=wrap64 x.qh.st} v w
 |_,_,_=>True
theorem Em (n0:Nat) (q:RP) (x:Z8) (i:Nat) (v:Value) (w w':W) (h:Ty n0 q x i v w) (m:Ze [] w w'):Ty n0 q x i v w':=by
 match i,h with
 |0,h=>exact h
 |1,h=>exact h
 |2,h=>exact h
 |3,h=>exact h
 |4,h=>exact h
 |5,h=>exact h
 |6,h=>exact h
 |7,h=>exact h
 |8,h=>exact h
 |9,h=>exact Mf.mod h m
 |i+10,h=>trivial
theorem Sj (n0:Nat) (q:RP) (x:Z8) (i:Nat) (h:10<=i) (v:Value) (w:W):Ty n0 q x i v w:=by
 match i,h with
 |j+10,_=>trivial
variable {w w' w0 w1 w2:W} {p p':MP} {q q':RP} {x x':Z8} {m:Zk} {a b:Nat} {s s':Zh} {S:List Nat}
theorem rdeed_c (h:Yc w q x) (ok:Ym x.m) (hal:x.args.length<=4096):Calls N 232 #[E (I ⟨q.k,0,O⟩)] w (Gk w x.told):=by
 have ZD:=Zh_ (heap_alloc_new w (.cells Yd 50));have HN:=Zh_ (show w.heap.size < (w.alloc (.cells Yd 50)).heap.size by simp);have m1:Ze [] w (w.alloc (.cells Yd 50)):=(Zr_ _ _).alloc _;have h1:Yc (w.alloc (.cells Yd 50)) q x:=h.mod m1 (by simp);clear h
 by_cases hp:x.part=1
 ·have HP:=Zh_ hp;have d1:(x.part==1)=true:=by simp [hp]
  clear hp;go_enter func232,ntmps232;go_upto_region 1 with fail;change Code.wp _ _ _ _ (w.alloc (.cells Yd 50));generalize w.alloc (.cells Yd 50)=w1 at *
  have c9:=(h1.cell 9 (u:=U Y x.part) J).1;have hlt:=B9 h1.hd;have hc:=We h1 ok hal (-1);have M1:=Zh_ m1;clear m1 h1;go_wp2_with fail;refine hc.mono ?_;rintro e w2 ⟨st,va,vr,vw,vo,rfl,ra,rr,rw',ro,m2⟩;have hd:({x.told with mark:=-1}:Zu)=x.told:=by have:=HP.out;unfold Z8.told;simp [this]
  rw [hd] at ra rr rw' ro;have FIN:=Zh_ (Ct (d:=x.told) (st:=st) M1.out m2 (Nat.le_of_lt HN.out) (m2.at ZD.out (by simp)) ra rr rw' ro);have Z6:=Zh_ (m2.at ZD.out (by simp));have ONE:=Zh_ (F9 (tag:=x.told.tag) (mark:=x.told.mark) (num:=x.told.number) (st:=st) (a:=x.told.qq) (b:=x.told.qn) (c:=x.told.zd) (Y7 ra.1) (Y7 rr.1) (Y7 rw'.1) (Y7 ro.1));have HD:=Zh_ hd;rw [show (-1:Int)=x.told.mark from by rw [<-hd]];clear hc c9 hlt m2 ra rr rw' ro hd;go_wp2_with (refine wpList_store_row J 50 _ _ J w.heap.size (Qk x.told.tag x.told.mark x.told.number st x.told.qq x.told.qn x.told.zd va vr vw vo) J J 50 Yd Z6.out (by kernel_rfl) J ONE.out ?_);refine bodyPost_ret (v:=.agg (Qk x.told.tag x.told.mark x.told.number st x.told.qq x.told.qn x.told.zd va vr vw vo)) (results_cell_row (P:=N) (fn:=Tryz.f232) (p:=2) (ty:=50) J _ _ w.heap.size 50 _ (0,0) _ J (Y0 Z6.out) underlying50 J (by kernel_rfl)) J ?_;exact FIN.out
 ·have d1:(x.part==1)=false:=by simp [hp]
  have HP:=Zh_ hp;clear hp;go_enter func232,ntmps232;go_upto_region 1 with fail;change Code.wp _ _ _ _ (w.alloc (.cells Yd 50));generalize w.alloc (.cells Yd 50)=w1 at *
  have c9:=(h1.cell 9 (u:=U Y x.part) J).1;have hlt:=B9 h1.hd;have M1:=Zh_ m1;have HRD:=Zh_ (λ (wx:W) (hR:Ze [] w1.drew wx)=>h1.mod ((Zr_ [] w1).drew.trans hR) (by simp));obtain ⟨n0,hq0⟩:∃ n,n=w1.heap.size:=⟨_,J⟩;have hn0:n0<=w1.drew.heap.size:=Nat.le_of_eq hq0;replace HN:=Zh_ (show w.heap.size < n0 by rw [hq0];exact HN.out);clear m1 h1 hq0;go_upto_region 3 with fail;clear c9 hlt;refine Yt (by kernel_rfl) 10 (by rfl) (λ x y=>Ze [] x y) (Ty n0 q x) (by kernel_rfl) (by rfl) (by kernel_rfl) (Em n0 q x) (λ a=>Zr_ _ _) (λ a b c h k=>h.trans k) ?_ ?_ ?_
  ·exact λ i v w' hv o ho hd=>Vi (m:=10) (by kernel_rfl) (Sj n0 q x) ho hd
  ·intro i o hi ho
   match i,hi with
   |0,_=>obtain rfl:=Zo_ ho;intro a wx hR hF hO;have e0:=To_ hO 0 (E (I ⟨q.k,0,O⟩));clear hF hO;go_simp;exact ⟨Zr_ _ _,J⟩
   |1,_=>obtain rfl:=Zo_ ho;intro a wx hR hF hO;have e13:=Tf_ hF 13 0 (E (I ⟨q.k,0,O⟩));clear hF hO;go_simp;exact ⟨Zr_ _ _,J⟩
   |2,_=>obtain rfl:=Zo_ ho;intro a wx hR hF hO;have e14:=Tf_ hF 14 1 (E (I ⟨q.k,0,O⟩));clear hF hO;go_simp;exact ⟨Zr_ _ _,J⟩
   |3,_=>obtain rfl:=Zo_ ho;intro a wx hR hF hO;have e0:=To_ hO 0 (E (I ⟨q.k,0,O⟩));clear hF hO;go_simp;exact ⟨Zr_ _ _,J⟩
   |4,_=>obtain rfl:=Zo_ ho;intro a wx hR hF hO;have e16:=Tf_ hF 16 3 (E (I ⟨q.k,0,O⟩));clear hF hO;go_simp;exact ⟨Zr_ _ _,J⟩
   |5,_=>obtain rfl:=Zo_ ho;intro a wx hR hF hO;have e17:=Tf_ hF 17 4 (E (I ⟨q.k,0,O⟩));clear hF hO;go_simp;exact ⟨Zr_ _ _,J⟩
   |6,_=>obtain rfl:=Zo_ ho;intro a wx hR hF hO;have e18:=Tf_ hF 18 5 (E (I ⟨q.k,12,O⟩));clear hF hO;have c0:=((HRD.out wx hR).cell 12 (u:=E (I ⟨q.cm,0,O⟩)) J).1;go_simp;exact ⟨Zr_ _ _,J⟩
   |7,_=>obtain rfl:=Zo_ ho;intro a wx hR hF hO;have e19:=Tf_ hF 19 6 (E (I ⟨q.cm,0,O⟩));clear hF hO;go_simp;exact Calls.mono (L6 _ (HRD.out wx hR).qh) (λ e w2 ⟨he,hw⟩=>⟨_,he,by rw [hw];exact Zr_ _ _,J⟩)
   |8,_=>obtain rfl:=Zo_ ho;intro a wx hR hF hO;have e20:=Tf_ hF 20 7 (U Y_ x.qh.st);clear hF hO;go_simp;exact ⟨Zr_ _ _,congrArg _ (IntWalk.i64_left _)⟩
   |9,_=>obtain rfl:=Zo_ ho;intro a wx hR hF hO;have e15:=Tf_ hF 15 2 (E (I ⟨q.k,0,O⟩));have e21:=Tf_ hF 21 8 (U Y (wrap64 x.qh.st));clear hF hO;go_simp;refine Calls.mono (We (HRD.out wx hR) ok hal (wrap64 x.qh.st)) ?_;rintro e w' hc;obtain ⟨u,rfl,hm,hr⟩:=Gk.to hc (Nat.le_trans hn0 hR.size);exact ⟨u,J,hm,hr⟩
   |j+10,hh=>omega
  ·intro vs w2 hR hv;obtain ⟨st,va,vr,vw,vo,e22,ra,rr,rw',ro⟩:Mf n0 {x.told with mark:=wrap64 x.qh.st} (vs 9) w2:=hv 9 (by decide);have hd:({x.told with mark:=wrap64 x.qh.st}:Zu)=x.told:=by have:=HP.out;unfold Z8.told;simp [this]
   rw [hd] at ra rr rw' ro e22;have m2:Ze [] w1 w2:=(Zr_ [] w1).drew.trans hR;have FIN:=Zh_ (Ct (d:=x.told) (st:=st) M1.out m2 (Nat.le_of_lt HN.out) (m2.at ZD.out (by simp)) ra rr rw' ro);have Z6:=Zh_ (m2.at ZD.out (by simp));have ONE:=Zh_ (F9 (tag:=x.told.tag) (mark:=x.told.mark) (num:=x.told.number) (st:=st) (a:=x.told.qq) (b:=x.told.qn) (c:=x.told.zd) (Y7 ra.1) (Y7 rr.1) (Y7 rw'.1) (Y7 ro.1));clear m2 ra rr rw' ro hd hR;simp only [Yx,List.take_succ_cons,List.take_zero,Act.put,e22];go_simp;refine wpList_store_row J 50 _ _ J w.heap.size (Qk x.told.tag x.told.mark x.told.number st x.told.qq x.told.qn x.told.zd va vr vw vo) J J 50 Yd Z6.out (by kernel_rfl) J ONE.out ?_;go_wp2_with fail;refine bodyPost_ret (v:=.agg (Qk x.told.tag x.told.mark x.told.number st x.told.qq x.told.qn x.told.zd va vr vw vo)) (results_cell_row (P:=N) (fn:=Tryz.f232) (p:=2) (ty:=50) J _ _ w.heap.size 50 _ (0,0) _ J (Y0 Z6.out) underlying50 J (by kernel_rfl)) J ?_;exact FIN.out
end
section
attribute [local go_sem] Zi
attribute [local go_sem] Qg Xo
variable {w w' w0 w1 w2:W} {c0 c1 c2 c3 tag:Int} {code:List Xg} {args:List Nat} {vc va:Value} {a b:Nat} {s:Zh}
theorem Yg {w w':W} {v:Value} {n:Nat} {xs:List Value} {t:TypeId} {z:Nat} (h:w.ownsRow 0 t z v n xs) (m:Ze [] w w'):w'.ownsRow 0 t z v n xs:=Zt h m (by simp)
def wK (c0 c1 c2 c3 tag:Int) (code:List Xg) (args:List Nat) (k:Nat):Zv:={Ul c0 c1 c2 c3 tag code args with args:=(args.take k).map Zq,part:=0}
theorem wK_all:{wK c0 c1 c2 c3 tag code args args.length with part:=1}=Ul c0 c1 c2 c3 tag code args:=by
 unfold wK Ul;simp
theorem wK_succ {k:Nat} (hk:k < args.length):{wK c0 c1 c2 c3 tag code args k with args:=(wK c0 c1 c2 c3 tag code args k).args++[Zq args[k]]}=wK c0 c1 c2 c3 tag code args (k+1):=by
 unfold wK;simp only;rw [List.take_succ_eq_append_getElem hk];simp only [List.map_append,List.map_cons,List.map_nil]
def NewW (w:W) (a b:Nat) (x:Zv) (s:Zh) (e:Ending) (w':W):Prop:=∃ q,e=R_ (E (I ⟨q.k,0,O⟩))/\Zz w' q x/\q.nx=Xi 1/\Zj 137 w' a b s/\Ze [] w w'/\∀ k∈q.blocks,w.heap.size<=k
theorem wnew_c (hcf:Y1 c0 c1 c2 c3) (th:Int) (ht0:0<=th) (ht1:th < c1) (hcode:w.ownsRow 0 106 3 vc code.length (Yl code)) (hcl:code.length<=5864062014635) (hargs:w.ownsRow 0 51 1 va args.length (args.map (Z V))) (hal:args.length<=8) (hM:Zj 137 w a b s):
  Calls N 65 #[A_ #[U Y c0,U Y c1,U Y c2,U Y c3],U Y th,A_ #[U Y tag,vc],va] w (NewW w a b (Ul c0 c1 c2 c3 tag code args) s):=by
 obtain ⟨aa,ca,rfl⟩:=Zo hargs;have dl:decide (th < 0)=false:=D9 (by omega);have dc:decide (c1<=th)=false:=D9 (by omega);have b4:((w.alloc (X #[U Y c0,U Y c1,U Y c2,U Y c3] 23)).alloc (X #[U Y tag,vc] 110)).heap[w.heap.size]? =I (X #[U Y c0,U Y c1,U Y c2,U Y c3] 23 (0,0)):=Zf _ (Zc _ _);have b6:((w.alloc (X #[U Y c0,U Y c1,U Y c2,U Y c3] 23)).alloc (X #[U Y tag,vc] 110)).heap[w.heap.size+1]? =I (X #[U Y tag,vc] 110 (0,0)):=Rb w _ _;have M1:=Zh_ (show Ze [] w ((w.alloc (X #[U Y c0,U Y c1,U Y c2,U Y c3] 23)).alloc (X #[U Y tag,vc] 110)) from ((Zr_ _ _).alloc _).alloc _);have hpl:=λ w=>Ue c0 c1 c2 c3 hcf w;have HM:=Zh_ (λ (wx:W) (m:Ze [] w wx)=>mnew_c (w:=wx) hcf (Yg hcode m) hcl (Yg hargs m) hal (tag:=tag));have HMEM:=Zh_ (λ (wx:W) (m:Ze [] w wx)=>hM.mod m (by simp) (by simp));have HARGS:=Zh_ (λ (wx:W) (m:Ze [] w wx)=>Yg hargs m);clear hcode hargs hcf hM ht0 ht1;go_enter func65,ntmps65;go_upto_region 1 with fail;generalize (w.alloc (X #[U Y c0,U Y c1,U Y c2,U Y c3] 23)).alloc (X #[U Y tag,vc] 110)=w1 at *
 have x0:=Za (i:=0) b4 J;have x1:=Za (i:=1) b4 J;have x2:=Za (i:=2) b4 J;have x3:=Za (i:=3) b4 J;have l4:=B9 b4;have B4:=Zh_ b4;have B6:=Zh_ b6;clear b4 b6;go_wp2_with fail;refine (hpl _).mono ?_;rintro e w2 ⟨rfl,m2⟩;have b4:=m2.at B4.out (by simp);have b6:=m2.at B6.out (by simp);have y0:=Za (i:=0) b4 J;have y1:=Za (i:=1) b4 J;have y2:=Za (i:=2) b4 J;have y3:=Za (i:=3) b4 J;have z0:=Za (i:=0) b6 J;have z1:=Za (i:=1) b6 J;have l4:=B9 b4;have l6:=B9 b6;have M2:=Zh_ (M1.out.trans m2);have B4b:=Zh_ b4;have B6b:=Zh_ b6;clear x0 x1 x2 x3 B4 B6 m2 hpl b4 b6;go_wp2_with fail;refine (HM.out _ (M2.out.alloc _)).mono ?_;rintro e w3 ⟨p,rfl,hma,m3,hfr⟩;have M3:=Zh_ ((M2.out.alloc _).trans m3);have m23:=((Zr_ [] w2).alloc (X #[U Y 0,U Y 1,U Y 2,U Y 3,U Y (3+c1),U Y (3+c1+3 * c0)] 74)).trans m3;have b9:=m3.at (Zc w2 (X #[U Y 0,U Y 1,U Y 2,U Y 3,U Y (3+c1),U Y (3+c1+3 * c0)] 74)) (by simp);have b4:=m23.at B4b.out (by simp);have b6:=m23.at B6b.out (by simp);have y0:=Za (i:=0) b9 J;have y1:=Za (i:=1) b9 J;have y2:=Za (i:=2) b9 J;have y3:=Za (i:=3) b9 J;have y4:=Za (i:=4) b9 J;have y5:=Za (i:=5) b9 J;have u1:=Za (i:=1) b4 J;have u6:=Za (i:=0) b6 J;have HMA:=Zh_ hma;have HFR:=Zh_ hfr;have S23:=Zh_ (show w.heap.size<=w2.heap.size from M2.out.size);clear M1 z0 z1 l4 l6 B4b B6b m3 hma hfr m23 b9 b4 b6 HM M2;go_upto_region 6 with fail;have W4:Zz (w3.alloc (X #[.nilFunc,U Y 0,U Y 1,U Y 2,U Y 3,U Y (3+c1),U Y (3+c1+3 * c0),E (I ⟨p.mb,0,O⟩),U Y c1,U Y tag,L O 0 0,U Y 0,U Y 0,U Y_ 0,U Y_ 0,U Y 0,L O 0 0,E O,E O,U Y 0] 161)) ⟨w3.heap.size,p,L O 0 0,L O 0 0,O,O,0,.nilFunc⟩ (wK c0 c1 c2 c3 tag code args 0):=
  ⟨heap_alloc_new _ _,HMA.out.alloc _,World.ownsRow_nil _ _ _ _,World.ownsRow_nil _ _ _ _,trivial,trivial,by simp [Value.ownBlock],by simp [Value.ownBlock]⟩
 have M4:=Zh_ (M3.out.alloc (X #[.nilFunc,U Y 0,U Y 1,U Y 2,U Y 3,U Y (3+c1),U Y (3+c1+3 * c0),E (I ⟨p.mb,0,O⟩),U Y c1,U Y tag,L O 0 0,U Y 0,U Y 0,U Y_ 0,U Y_ 0,U Y 0,L O 0 0,E O,E O,U Y 0] 161));generalize w3.alloc (X #[.nilFunc,U Y 0,U Y 1,U Y 2,U Y 3,U Y (3+c1),U Y (3+c1+3 * c0),E (I ⟨p.mb,0,O⟩),U Y c1,U Y tag,L O 0 0,U Y 0,U Y 0,U Y_ 0,U Y_ 0,U Y 0,L O 0 0,E O,E O,U Y 0] 161)=w4 at *
 have hq0:∀ k∈(⟨w3.heap.size,p,L O 0 0,L O 0 0,O,O,0,.nilFunc⟩:WP).blocks,w.heap.size<=k:=by
  intro k hk;rw [WP.mem] at hk;simp only [Value.ownBlock] at hk;rcases hk with rfl|hk|hk|hk|hk|hk
  ·exact M3.out.size
  ·have:=HFR.out k hk;simp only [World.size_alloc] at this;have:=S23.out;omega
  all_goals simp at hk
 obtain ⟨q0,hq⟩:∃ q0:WP,q0=⟨w3.heap.size,p,L O 0 0,L O 0 0,O,O,0,.nilFunc⟩:=⟨_,J⟩;rw [<-hq] at W4 hq0;have hk0:q0.k=w3.heap.size:=by rw [hq]
 have hn0:q0.nx=.nilFunc:=by rw [hq]
 have G0:Xd w4 q0 a b (wK c0 c1 c2 c3 tag code args 0) .nilFunc s w4:=by have:=Xd.same W4 (HMEM.out _ M4.out);rw [hn0] at this;exact this
 have HQ:=Zh_ hq0;have MW4:=Zh_ (HMEM.out _ M4.out);have L4:=Zh_ W4;rw [<-hk0];clear y0 y1 y2 y3 y4 y5 u1 u6 hq hq0 hk0 hn0 W4 HMA HFR S23 M3 dl dc;go_wp2_with fail
 go_loopw [50] (λ i wr=>∃ k:Nat,k<=args.length/\i=U Y k/\Xd w4 q0 a b (wK c0 c1 c2 c3 tag code args k) .nilFunc s wr) (λ i _=>args.length - (intOf i).toNat)
 case atStart=>exact ⟨0,Nat.zero_le _,J,G0⟩
 case round=>
  obtain ⟨k,hk,rfl,G⟩:=hrel;clear G0
  by_cases hlt:k < args.length
  ·have mr:Ze [] w wr:=M4.out.then (G.yv MW4.out) (λ g hg=>.inr (HQ.out g hg));have ha:=HARGS.out wr mr;obtain ⟨ga,cga,hga,-⟩:=Ya ha (by omega);obtain rfl:aa=I ⟨ga,0,O⟩:=by injection hga
   have hx:(args.map (Z V))[k]? =I (Z V args[k]):=by simp [hlt]
   have ck:=Jw ha hx;have lga:=Yr ha (g:=ga) J;have k0:(0:Int)<=(k:Int):=Int.natCast_nonneg _;have kl:decide (k < args.length)=true:=decide_eq_true hlt;obtain ⟨v0,cs,hcs,hcs10,hv,hnk,hput⟩:=G.ue;obtain ⟨av,cv,rfl⟩:=Zo hv;have c10:wr.cell? ⟨q0.k,10,O⟩=I (L av (wK c0 c1 c2 c3 tag code args k).args.length cv):=Za hcs hcs10;have hl:(wK c0 c1 c2 c3 tag code args k).args.length=k:=by unfold wK;simp;omega
   have f10:=Zb (i:=10) hcs;have hgl:=B9 hcs;have HCS:=Zh_ hcs;have HCS10:=Zh_ hcs10;have HPUT:=Zh_ hput;have HNK:=Zh_ hnk;rw [hl] at c10 hv;have HL:=Zh_ hl;obtain ⟨i0,hi0,hz0,hz1,hz2⟩:=info_parts Up;have GG:=Zh_ G;clear hga hx ha mr hcs hcs10 hput hnk hl G;go_wp2_with fail
   go_region_law (first
    |(refine step_append_lies _ J (.tmp 58) (.tmp 61) 24 J 0 51 i0 (Z V 0) 1 8 underlying24 hi0 hz0 hz1 hz2 J (by decide) (L av k cv) k ((wK c0 c1 c2 c3 tag code args k).args.map (Z V)) (by simp [Act.eval]) (hv.alloc _) ⟨wr.heap.size,0,O⟩ 1 1 [Z V (Zq args[k])] (by simp [Act.eval]) J (cell_one_new wr.drew _ 51) (by intro u hu;simp at hu;subst hu;rfl) (by decide) (by unfold maxLen;omega) (by omega) (Nat.zero_le _) _ J ?_;intro g5 cap5 w5 ho5 hg5 hat hlt5;have K5:w5.heap[q0.k]? =I (.cells cs 161 (0,0)):=(hg5.block q0.k (by simp;omega) (λ e=>HNK.out q0.k (by rw [HL.out];exact e.symm) J)).trans (Zf _ HCS.out);have r10:w5.cell? ⟨q0.k,10,O⟩=I (L av k cv):=Za K5 (by rw [HCS10.out,HL.out]);have z10:=Zb (i:=10) K5;have M5:=Zh_ (show Ze (L av k cv).ownBlock.toList wr w5 from (((Zr_ _ wr).drew).alloc _).grown hg5 (λ g hg=>.inl (by simpa using hg)));have HAT:=Zh_ hat;have HO:=Zh_ ho5;have l10:=B9 K5;clear ho5 hg5 hat hlt5 K5)
    |(go_simp;go_at_call 73;refine (Yq _ _).mono ?_;rintro e w9 ⟨rfl,hw9⟩;have hw9':=hw9.symm;subst hw9'))
   all_goals
    go_wp2;go_roundw
    case rel=>exact ⟨k+1,by omega,by go_num,by
     have on:Jn wr (L av k cv) (L (I ⟨g5,0,O⟩) (k+1) cap5):=by
      rcases HAT.out with e|e
      ·exact .inl (by rw [e];rfl)
      ·exact .inr ⟨g5,J,by rw [e];simp⟩
     have:=HPUT.out w5 _ (L (I ⟨g5,0,O⟩) (k+1) cap5) (Zq args[k]) (by rw [HL.out];exact M5.out) (by rw [HL.out];exact on) (by rw [HL.out];simpa using HO.out) J;rw [wK_succ hlt] at this;exact this⟩
    case measure=>simp [intOf];omega
  ·have kl:decide (k < args.length)=false:=D9 hlt;have hke:k=args.length:=by omega
   subst hke;have HG:=Zh_ G;clear G;go_wp2_with fail;refine (Uq HG.out 1 (by decide) (by decide)).mono ?_;rintro e w6 ⟨rfl,n6,G6,hn6⟩;rw [wK_all] at G6;have HG6:=Zh_ G6;have HN6:=Zh_ hn6;clear G6 hn6;go_wp2;go_ret;obtain ⟨r,r1,r2,r3,r4,r5⟩:=HG6.out.grS;exact ⟨r,by rw [r3];rfl,r1,r4.trans (HN6.out (by decide)),r2,M4.out.then (HG6.out.yv MW4.out) (λ g hg=>.inr (HQ.out g hg)),λ g hg=>(r5 g hg).elim (HQ.out g) (λ hh=>Nat.le_trans M4.out.size hh)⟩
end
section
attribute [local go_sem] Zi
def qc0 (c0 c1 tag th:Int) (mb cm:Nat):Array Value:=#[U Y 0,U Y 1,U Y 2,U Y 3,U Y (3+c1),U Y (3+c1+3 * c0),E (I ⟨mb,0,O⟩),U Y tag,L O 0 0,U Y 1,U Y 0,U Y th,E (I ⟨cm,0,O⟩),E O]
def Tp (n0:Nat) (c0 c1 th:Int) (v:Value) (w:W):Prop:=∃ cm,v=E (I ⟨cm,0,O⟩)/\w.heap[cm]? =I (.cells (Mb c0 c1 th).arr 189 (0,0))/\n0<=cm
theorem Tp.mod {n0:Nat} {c0 c1 th:Int} {v:Value} {w w':W} (h:Tp n0 c0 c1 th v w) (m:Ze [] w w'):Tp n0 c0 c1 th v w':=by
 obtain ⟨cm,h1,h2,h3⟩:=h;exact ⟨cm,h1,m.at h2 (by simp),h3⟩
def Pg (n0:Nat) (c0 c1 tag th:Int) (mb:Nat) (v:Value) (w:W):Prop:=∃ cm,v=.agg (qc0 c0 c1 tag th mb cm)/\w.heap[cm]? =I (.cells (Mb c0 c1 th).arr 189 (0,0))/\n0<=cm
theorem Pg.mod {n0:Nat} {c0 c1 tag th:Int} {mb:Nat} {v:Value} {w w':W} (h:Pg n0 c0 c1 tag th mb v w) (m:Ze [] w w'):Pg n0 c0 c1 tag th mb v w':=by
 obtain ⟨cm,h1,h2,h3⟩:=h;exact ⟨cm,h1,m.at h2 (by simp),h3⟩
def Aq (n0:Nat) (c0 c1 tag th:Int) (mb:Nat) (v:Value) (w:W):Prop:=∃ k cm,v=E (I ⟨k,0,O⟩)/\w.heap[k]? =I (.cells (qc0 c0 c1 tag th mb cm) 168 (0,0))/\w.heap[cm]? =I (.cells (Mb c0 c1 th).arr 189 (0,0))/\n0<=k/\n0<=cm
theorem Aq.mod {n0:Nat} {c0 c1 tag th:Int} {mb:Nat} {v:Value} {w w':W} (h:Aq n0 c0 c1 tag th mb v w) (m:Ze [] w w'):Aq n0 c0 c1 tag th mb v w':=by
 obtain ⟨k,cm,h1,h2,h3,h4⟩:=h;exact ⟨k,cm,h1,m.at h2 (by simp),m.at h3 (by simp),h4⟩
def rK (c0 c1 c2 c3 th tag:Int) (code:List Xg) (args:List Nat) (k:Nat):Z8:={Ug c0 c1 c2 c3 th tag code args with args:=(args.take k).map Zq}
theorem rK_all {c0 c1 c2 c3 th tag:Int} {code:List Xg} {args:List Nat}:rK c0 c1 c2 c3 th tag code args args.length=Ug c0 c1 c2 c3 th tag code args:=by
 unfold rK Ug;simp
theorem rK_succ {c0 c1 c2 c3 th tag:Int} {code:List Xg} {args:List Nat} {k:Nat} (hk:k < args.length):{rK c0 c1 c2 c3 th tag code args k with args:=(rK c0 c1 c2 c3 th tag code args k).args++[Zq args[k]]}=rK c0 c1 c2 c3 th tag code args (k+1):=by
 unfold rK;simp only;rw [List.take_succ_eq_append_getElem hk];simp only [List.map_append,List.map_cons,List.map_nil]
def NewR (w:W) (a b:Nat) (x:Z8) (s:Zh) (e:Ending) (w':W):Prop:=∃ q,e=R_ (E (I ⟨q.k,0,O⟩))/\Yc w' q x/\Zj 137 w' a b s/\Ze [] w w'/\∀ k∈q.blocks,w.heap.size<=k
def Wl (n0 mb h6:Nat) (c0 c1 tag th:Int):Nat->Value->W->Prop
 |0,v,_=>v=A_ #[U Y 0,U Y 1,U Y 2,U Y 3,U Y (3+c1),U Y (3+c1+3 * c0)]
 |1,v,_=>v=E (I ⟨mb,0,O⟩)
 |2,v,_=>v=E (I ⟨h6,0,O⟩)
 |3,v,_=>v=U Y tag
 |4,v,_=>v=A_ #[U Y 0,U Y 1,U Y 2,U Y 3,U Y (3+c1),U Y (3+c1+3 * c0),E (I ⟨mb,0,O⟩),U Y tag,L O 0 0,U Y 1,U Y 0]
 |5,v,_=>v=U Y th
 |6,v,_=>v=A_ #[U Y 0,U Y 1,U Y 2,U Y 3,U Y (3+c1),U Y (3+c1+3 * c0)]
 |7,v,_=>v=U Y th
 |8,v,w=>Tp n0 c0 c1 th v w
 |9,v,w=>Pg n0 c0 c1 tag th mb v w
 |10,v,w=>Aq n0 c0 c1 tag th mb v w
 |_,_,_=>True
theorem rnewF_on (n0 mb h6:Nat) (c0 c1 tag th:Int) (i:Nat) (v:Value) (w w':W) (h:Wl n0 mb h6 c0 c1 tag th i v w) (m:Ze [] w w'):Wl n0 mb h6 c0 c1 tag th i v w':=by
 match i,h with
 |0,h=>exact h
 |1,h=>exact h
 |2,h=>exact h
 |3,h=>exact h
 |4,h=>exact h
 |5,h=>exact h
 |6,h=>exact h
 |7,h=>exact h
 |8,h=>exact Tp.mod h m
 |9,h=>exact Pg.mod h m
 |10,h=>exact Aq.mod h m
 |i+11,h=>trivial
theorem Eh (n0 mb h6:Nat) (c0 c1 tag th:Int) (i:Nat) (h:11<=i) (v:Value) (w:W):Wl n0 mb h6 c0 c1 tag th i v w:=by
 match i,h with
 |j+11,_=>trivial
variable {w w' w0 w1 w2:W} {c0 c1 c2 c3 tag:Int} {code:List Xg} {args:List Nat} {vc va:Value} {a b:Nat} {s:Zh}
theorem rnew_c (hcf:Y1 c0 c1 c2 c3) (th:Int) (ht0:0<=th) (ht1:th < c1) (hcode:w.ownsRow 0 106 3 vc code.length (Yl code)) (hcl:code.length<=5864062014635) (hargs:w.ownsRow 0 51 1 va args.length (args.map (Z V))) (hal:args.length<=8) (hM:Zj 137 w a b s):
  Calls N 66 #[A_ #[U Y c0,U Y c1,U Y c2,U Y c3],U Y th,A_ #[U Y tag,vc],va] w (NewR w a b (Ug c0 c1 c2 c3 th tag code args) s):=by
 obtain ⟨aa,ca,rfl⟩:=Zo hargs;have dl:decide (th < 0)=false:=D9 (by omega);have dc:decide (c1<=th)=false:=D9 (by omega);have b4:((w.alloc (X #[U Y c0,U Y c1,U Y c2,U Y c3] 23)).alloc (X #[U Y tag,vc] 110)).heap[w.heap.size]? =I (X #[U Y c0,U Y c1,U Y c2,U Y c3] 23 (0,0)):=Zf _ (Zc _ _);have b6:((w.alloc (X #[U Y c0,U Y c1,U Y c2,U Y c3] 23)).alloc (X #[U Y tag,vc] 110)).heap[w.heap.size+1]? =I (X #[U Y tag,vc] 110 (0,0)):=Rb w _ _;have M1:=Zh_ (show Ze [] w ((w.alloc (X #[U Y c0,U Y c1,U Y c2,U Y c3] 23)).alloc (X #[U Y tag,vc] 110)) from ((Zr_ _ _).alloc _).alloc _);have hpl:=λ w=>Ue c0 c1 c2 c3 hcf w;have HM:=Zh_ (λ (wx:W) (m:Ze [] w wx)=>mnew_c (w:=wx) hcf (Yg hcode m) hcl (Yg hargs m) hal (tag:=tag));have HMEM:=Zh_ (λ (wx:W) (m:Ze [] w wx)=>hM.mod m (by simp) (by simp));have HARGS:=Zh_ (λ (wx:W) (m:Ze [] w wx)=>Yg hargs m);clear hcode hargs hcf hM ht0 ht1;go_enter func66,ntmps66;go_upto_region 1 with fail;generalize (w.alloc (X #[U Y c0,U Y c1,U Y c2,U Y c3] 23)).alloc (X #[U Y tag,vc] 110)=w1 at *
 have x0:=Za (i:=0) b4 J;have x1:=Za (i:=1) b4 J;have x2:=Za (i:=2) b4 J;have x3:=Za (i:=3) b4 J;have l4:=B9 b4;have B4:=Zh_ b4;have B6:=Zh_ b6;clear b4 b6;go_wp2_with fail;refine (hpl _).mono ?_;rintro e w2 ⟨rfl,m2⟩;have b4:=m2.at B4.out (by simp);have b6:=m2.at B6.out (by simp);have y0:=Za (i:=0) b4 J;have y1:=Za (i:=1) b4 J;have y2:=Za (i:=2) b4 J;have y3:=Za (i:=3) b4 J;have z0:=Za (i:=0) b6 J;have z1:=Za (i:=1) b6 J;have l4:=B9 b4;have l6:=B9 b6;have M2:=Zh_ (M1.out.trans m2);have B4b:=Zh_ b4;have B6b:=Zh_ b6;clear x0 x1 x2 x3 B4 B6 m2 hpl b4 b6;go_wp2_with fail;refine (HM.out _ (M2.out.alloc _)).mono ?_;rintro e w3 ⟨p,rfl,hma,m3,hfr⟩;have M3:=Zh_ ((M2.out.alloc _).trans m3);have m23:=((Zr_ [] w2).alloc (X #[U Y 0,U Y 1,U Y 2,U Y 3,U Y (3+c1),U Y (3+c1+3 * c0)] 74)).trans m3;have b9:=m3.at (Zc w2 (X #[U Y 0,U Y 1,U Y 2,U Y 3,U Y (3+c1),U Y (3+c1+3 * c0)] 74)) (by simp);have b4:=m23.at B4b.out (by simp);have b6:=m23.at B6b.out (by simp);have y0:=Za (i:=0) b9 J;have y1:=Za (i:=1) b9 J;have y2:=Za (i:=2) b9 J;have y3:=Za (i:=3) b9 J;have y4:=Za (i:=4) b9 J;have y5:=Za (i:=5) b9 J;have u1:=Za (i:=1) b4 J;have u6:=Za (i:=0) b6 J;have HMA:=Zh_ hma;have HFR:=Zh_ hfr;have S23:=Zh_ (show w.heap.size<=w2.heap.size from M2.out.size);have KB9:=Zh_ b9;have KB6:=Zh_ b6;clear M1 z0 z1 l4 l6 B4b B6b m3 hma hfr m23 b9 b4 b6 HM M2;obtain ⟨h6,hh6⟩:∃ h,h=w.heap.size+1:=⟨_,J⟩;obtain ⟨h9,hh9⟩:∃ h,h=w2.heap.size:=⟨_,J⟩;obtain ⟨mb,hmb⟩:∃ h,h=p.mb:=⟨_,J⟩;have HK:=Zh_ (λ (wx:W) (hR:Ze [] w3.drew wx)=>(show wx.heap[h9]? =I (X #[U Y 0,U Y 1,U Y 2,U Y 3,U Y (3+c1),U Y (3+c1+3 * c0)] 74 (0,0))/\wx.heap[h6]? =I (X #[U Y tag,vc] 110 (0,0)) from by
  have m:Ze [] w3 wx:=(Zr_ [] w3).drew.trans hR;subst hh6 hh9;exact ⟨m.at KB9.out (by simp),m.at KB6.out (by simp)⟩))
 obtain ⟨n0,hq0⟩:∃ n,n=w3.heap.size:=⟨_,J⟩;have hn0:n0<=w3.drew.heap.size:=Nat.le_of_eq hq0;have HN3:=Zh_ hq0;have HMB:=Zh_ hmb;clear y0 y1 y2 y3 y4 y5 u6 hq0;go_upto_region 5 with fail;rw [<-hh6,<-hh9,<-hmb];clear hh6 hh9 hmb u1
 go_cut [12] (λ A wx=>Aq n0 c0 c1 tag th mb A wx/\Ze [] w3 wx)
 case first=>
  refine Yt (by kernel_rfl) 11 (by rfl) (λ x y=>Ze [] x y) (Wl n0 mb h6 c0 c1 tag th) (by kernel_rfl) (by rfl) (by kernel_rfl) (rnewF_on n0 mb h6 c0 c1 tag th) (λ a=>Zr_ _ _) (λ a b c h k=>h.trans k) ?_ ?_ ?_
  ·exact λ i v w' hv o ho hd=>Vi (m:=11) (by kernel_rfl) (Eh n0 mb h6 c0 c1 tag th) ho hd
  ·intro i o hi ho
   match i,hi with
   |0,_=>obtain rfl:=Zo_ ho;intro a wx hR hF hO;have e9:=To_ hO 9 (E (I ⟨h9,0,O⟩));clear hF hO;obtain ⟨K9,K6⟩:=HK.out wx hR;have c0:=Za (i:=0) K9 J;have c1:=Za (i:=1) K9 J;have c2:=Za (i:=2) K9 J;have c3:=Za (i:=3) K9 J;have c4:=Za (i:=4) K9 J;have c5:=Za (i:=5) K9 J;go_simp;exact ⟨Zr_ _ _,J⟩
   |1,_=>obtain rfl:=Zo_ ho;intro a wx hR hF hO;have e11:=To_ hO 11 (E (I ⟨mb,0,O⟩));clear hF hO;go_simp;exact ⟨Zr_ _ _,J⟩
   |2,_=>obtain rfl:=Zo_ ho;intro a wx hR hF hO;have e6:=To_ hO 6 (E (I ⟨h6,0,O⟩));clear hF hO;go_simp;exact ⟨Zr_ _ _,J⟩
   |3,_=>obtain rfl:=Zo_ ho;intro a wx hR hF hO;have e42:=Tf_ hF 42 2 (E (I ⟨h6,0,O⟩));clear hF hO;obtain ⟨K9,K6⟩:=HK.out wx hR;have c0:=Za (i:=0) K6 J;go_simp;exact ⟨Zr_ _ _,J⟩
   |4,_=>obtain rfl:=Zo_ ho;intro a wx hR hF hO;have e40:=Tf_ hF 40 0 (A_ #[U Y 0,U Y 1,U Y 2,U Y 3,U Y (3+c1),U Y (3+c1+3 * c0)]);have e41:=Tf_ hF 41 1 (E (I ⟨mb,0,O⟩));have e43:=Tf_ hF 43 3 (U Y tag);clear hF hO;go_simp;exact ⟨Zr_ _ _,J⟩
   |5,_=>obtain rfl:=Zo_ ho;intro a wx hR hF hO;have e1:=To_ hO 1 (U Y th);clear hF hO;go_simp;exact ⟨Zr_ _ _,J⟩
   |6,_=>obtain rfl:=Zo_ ho;intro a wx hR hF hO;have e9:=To_ hO 9 (E (I ⟨h9,0,O⟩));clear hF hO;obtain ⟨K9,K6⟩:=HK.out wx hR;have c0:=Za (i:=0) K9 J;have c1:=Za (i:=1) K9 J;have c2:=Za (i:=2) K9 J;have c3:=Za (i:=3) K9 J;have c4:=Za (i:=4) K9 J;have c5:=Za (i:=5) K9 J;go_simp;exact ⟨Zr_ _ _,J⟩
   |7,_=>obtain rfl:=Zo_ ho;intro a wx hR hF hO;have e1:=To_ hO 1 (U Y th);clear hF hO;go_simp;exact ⟨Zr_ _ _,J⟩
   |8,_=>obtain rfl:=Zo_ ho;intro a wx hR hF hO;have e46:=Tf_ hF 46 6 (A_ #[U Y 0,U Y 1,U Y 2,U Y 3,U Y (3+c1),U Y (3+c1+3 * c0)]);have e47:=Tf_ hF 47 7 (U Y th);clear hF hO;go_simp;refine Calls.mono (come_c 0 1 2 3 (3+c1) (3+c1+3 * c0) th wx) ?_;rintro e w' ⟨rfl,rfl⟩;exact ⟨_,J,((Zr_ _ _).alloc _).alloc _,_,J,Rb wx _ _,by have:=hR.size;omega⟩
   |9,_=>obtain rfl:=Zo_ ho;intro a wx hR hF hO;have e44:=Tf_ hF 44 4 (A_ #[U Y 0,U Y 1,U Y 2,U Y 3,U Y (3+c1),U Y (3+c1+3 * c0),E (I ⟨mb,0,O⟩),U Y tag,L O 0 0,U Y 1,U Y 0]);have e45:=Tf_ hF 45 5 (U Y th);have e48:Tp n0 c0 c1 th (a.eval (.tmp 48)) wx:=hF 48 8 _ (by kernel_rfl) J J;clear hF hO;obtain ⟨cm,q48,k48,n48⟩:=e48;replace q48:a.tmps[48]?.getD undef=_:=(show a.tmps[48]?.getD undef=a.eval (.tmp 48) by simp [Act.eval]).trans q48;have H48:=Zh_ k48;clear k48;go_simp;exact ⟨Zr_ _ _,cm,J,H48.out,n48⟩
   |10,_=>obtain rfl:=Zo_ ho;intro a wx hR hF hO;have e49:Pg n0 c0 c1 tag th mb (a.eval (.tmp 49)) wx:=hF 49 9 _ (by kernel_rfl) J J;clear hF hO;obtain ⟨cm,q49,k49,n49⟩:=e49;replace q49:a.tmps[49]?.getD undef=.agg (qc0 c0 c1 tag th mb cm):=(show a.tmps[49]?.getD undef=a.eval (.tmp 49) by simp [Act.eval]).trans q49;have H49:=Zh_ k49;clear k49;go_simp;exact ⟨(Zr_ _ _).alloc _,wx.heap.size,cm,J,heap_alloc_new _ _,Zf _ H49.out,Nat.le_trans hn0 hR.size,n49⟩
   |j+11,hh=>omega
  ·intro vs w5 hR hv;have h50:Aq n0 c0 c1 tag th mb (vs 10) w5:=hv 10 (by decide);have H50:=Zh_ h50;have H5:=Zh_ ((Zr_ [] w3).drew.trans hR);obtain ⟨k5,cm5,e50,-⟩:=h50;have HE:=Zh_ e50;clear hR hv;simp only [Yx,List.take_succ_cons,List.take_zero,Act.put];go_simp;go_wp2_with fail;go_meet;exact ⟨by first|exact H50.out|(rw [<-HE.out];exact H50.out),H5.out⟩
 case rest=>
  generalize wc=w4 at *
  obtain ⟨⟨k5,cm,rfl,hk5,hcm,n1,n2⟩,m4⟩:=hcut;have N3:=HN3.out;have hma4:=HMA.out.mod m4 (by simp);have W4:Yc w4 ⟨k5,p,L O 0 0,cm,O,0⟩ (rK c0 c1 c2 c3 th tag code args 0):=
   ⟨by rw [hk5];unfold qc0 Kd;rw [HMB.out];rfl,hma4,World.ownsRow_nil _ _ _ _,hcm,trivial,by simp [Value.ownBlock]⟩
  have M4:=Zh_ (M3.out.trans m4);have hq0:∀ k∈(⟨k5,p,L O 0 0,cm,O,0⟩:RP).blocks,w.heap.size<=k:=by
   intro k hk;have s3:=M3.out.size;rw [RP.mem] at hk;simp only [Value.ownBlock] at hk;rcases hk with rfl|rfl|hk|hk|hk
   ·omega
   ·omega
   ·have:=HFR.out k hk;simp only [World.size_alloc] at this;have:=S23.out;omega
   all_goals simp at hk
  obtain ⟨q0,hq⟩:∃ q0:RP,q0=⟨k5,p,L O 0 0,cm,O,0⟩:=⟨_,J⟩;rw [<-hq] at W4 hq0;have hk0:q0.k=k5:=by rw [hq]
  have G0:Qv w4 q0 a b (rK c0 c1 c2 c3 th tag code args 0) s w4:=Qv.same W4 (HMEM.out _ M4.out);have HQ:=Zh_ hq0;have MW4:=Zh_ (HMEM.out _ M4.out);rw [<-hk0];clear hq hq0 hk0 W4 HMA HFR S23 M3 dl dc hk5 hcm n1 n2 m4 N3 hma4 hn0 HK HN3 HMB;go_wp2_with fail
  go_loopw [53] (λ i wr=>∃ k:Nat,k<=args.length/\i=U Y k/\Qv w4 q0 a b (rK c0 c1 c2 c3 th tag code args k) s wr) (λ i _=>args.length - (intOf i).toNat)
  case atStart=>exact ⟨0,Nat.zero_le _,J,G0⟩
  case round=>
   obtain ⟨k,hk,rfl,G⟩:=hrel;clear G0
   by_cases hlt:k < args.length
   ·have mr:Ze [] w wr:=M4.out.then (G.yv MW4.out) (λ g hg=>.inr (HQ.out g hg));have ha:=HARGS.out wr mr;obtain ⟨ga,cga,hga,-⟩:=Ya ha (by omega);obtain rfl:aa=I ⟨ga,0,O⟩:=by injection hga
    have hx:(args.map (Z V))[k]? =I (Z V args[k]):=by simp [hlt]
    have ck:=Jw ha hx;have lga:=Yr ha (g:=ga) J;have k0:(0:Int)<=(k:Int):=Int.natCast_nonneg _;have kl:decide (k < args.length)=true:=decide_eq_true hlt;obtain ⟨v0,cs,hcs,hcs8,hv,hnk,hput⟩:=G.ue;obtain ⟨av,cv,rfl⟩:=Zo hv;have c8:wr.cell? ⟨q0.k,8,O⟩=I (L av (rK c0 c1 c2 c3 th tag code args k).args.length cv):=Za hcs hcs8;have hl:(rK c0 c1 c2 c3 th tag code args k).args.length=k:=by unfold rK;simp;omega
    have f8:=Zb (i:=8) hcs;have hgl:=B9 hcs;have HCS:=Zh_ hcs;have HCS8:=Zh_ hcs8;have HPUT:=Zh_ hput;have HNK:=Zh_ hnk;rw [hl] at c8 hv;have HL:=Zh_ hl;obtain ⟨i0,hi0,hz0,hz1,hz2⟩:=info_parts Up;have GG:=Zh_ G;clear hga hx ha mr hcs hcs8 hput hnk hl G;go_wp2_with fail
    go_region_law (first
     |(refine step_append_lies _ J (.tmp 62) (.tmp 65) 24 J 0 51 i0 (Z V 0) 1 8 underlying24 hi0 hz0 hz1 hz2 J (by decide) (L av k cv) k ((rK c0 c1 c2 c3 th tag code args k).args.map (Z V)) (by simp [Act.eval]) (hv.alloc _) ⟨wr.heap.size,0,O⟩ 1 1 [Z V (Zq args[k])] (by simp [Act.eval]) J (cell_one_new wr.drew _ 51) (by intro u hu;simp at hu;subst hu;rfl) (by decide) (by unfold maxLen;omega) (by omega) (Nat.zero_le _) _ J ?_;intro g5 cap5 w5 ho5 hg5 hat hlt5;have K5:w5.heap[q0.k]? =I (.cells cs 168 (0,0)):=(hg5.block q0.k (by simp;omega) (λ e=>HNK.out q0.k (by rw [HL.out];exact e.symm) J)).trans (Zf _ HCS.out);have r8:w5.cell? ⟨q0.k,8,O⟩=I (L av k cv):=Za K5 (by rw [HCS8.out,HL.out]);have z8:=Zb (i:=8) K5;have M5:=Zh_ (show Ze (L av k cv).ownBlock.toList wr w5 from (((Zr_ _ wr).drew).alloc _).grown hg5 (λ g hg=>.inl (by simpa using hg)));have HAT:=Zh_ hat;have HO:=Zh_ ho5;have l8:=B9 K5;clear ho5 hg5 hat hlt5 K5)
     |(go_simp;go_at_call 73;refine (Yq _ _).mono ?_;rintro e w9 ⟨rfl,hw9⟩;have hw9':=hw9.symm;subst hw9'))
    all_goals
     go_wp2;go_roundw
     case rel=>exact ⟨k+1,by omega,by go_num,by
      have on:Jn wr (L av k cv) (L (I ⟨g5,0,O⟩) (k+1) cap5):=by
       rcases HAT.out with e|e
       ·exact .inl (by rw [e];rfl)
       ·exact .inr ⟨g5,J,by rw [e];simp⟩
      have:=HPUT.out w5 _ (L (I ⟨g5,0,O⟩) (k+1) cap5) (Zq args[k]) (by rw [HL.out];exact M5.out) (by rw [HL.out];exact on) (by rw [HL.out];simpa using HO.out) J;rw [rK_succ hlt] at this;exact this⟩
     case measure=>simp [intOf];omega
   ·have kl:decide (k < args.length)=false:=D9 hlt;have hke:k=args.length:=by omega
    subst hke;have HG:=Zh_ G;clear G;rw [rK_all] at HG;go_wp2;go_ret;obtain ⟨r,r1,r2,r3,r5⟩:=HG.out.grS;exact ⟨r,by rw [r3];rfl,r1,r2,M4.out.then (HG.out.yv MW4.out) (λ g hg=>.inr (HQ.out g hg)),λ g hg=>(r5 g hg).elim (HQ.out g) (λ hh=>Nat.le_trans M4.out.size hh)⟩
end
section
variable {w0 w w1 w':W} {lab lab':Nat->Nat} {S qJ:List Nat} {i j n t k:Nat} {v:Value}
def Ji (w:W) (lab lab':Nat->Nat):Prop:=∀ n,n < w.heap.size->lab' n=lab n
def Gl (S:List Nat) (w:W) (lab:Nat->Nat) (qJ:List Nat):Prop:=∀ n∈S,n < w.heap.size->lab n∈qJ
theorem Gl.od (h:Gl S w lab qJ) (hi:i∉qJ) (hn:lab n=i) (hl:n < w.heap.size):n∉S:=λ hs=>hi (hn ▸ h n hs hl)
theorem Z3:Ji w lab lab:=λ _ _=>J
def Pp (lab:Nat->Nat) (z i:Nat) (n:Nat):Nat:=if z<=n then i else lab n
theorem Ui (i:Nat):Ji w lab (Pp lab w.heap.size i):=λ n hn=>Q9 (by omega)
theorem Jx {z i:Nat} (h:z<=n):Pp lab z i n=i:=P9 h
def Own (lab:Nat->Nat) (i:Nat) (v:Value):Prop:=∀ g,v.ownBlock=I g->lab g=i
structure Uj (w:W) (lab:Nat->Nat) (i:Nat) (t:TypeId) (z:Nat) (xs:List Value) (n:Nat) (v:Value):Prop where
 row:w.ownsRow 0 t z v n xs
 own:Own lab i v
theorem Uj.carry {t:TypeId} {z n:Nat} {xs:List Value} (h:Uj w lab i t z xs n v) (m:Ze S w w') (hs:Gl S w lab qJ) (hi:i∉qJ) (ha:Ji w lab lab'):Uj w' lab' i t z xs n v:=
 ⟨Zt h.row m (λ g hg=>hs.od hi (h.own g hg) (Yr h.row hg)),λ g hg=>(ha g (Yr h.row hg)).trans (h.own g hg)⟩
theorem Uj.nil (t:TypeId) (z:Nat):Uj w lab i t z [] 0 (L O 0 0):=⟨World.ownsRow_nil _ _ _ _,by intro g hg;simp [Value.ownBlock] at hg⟩
theorem Fy {z:Nat} {l:List (List Value)} (hl:∀ x∈l,x.length=z) {k c:Nat} (hk:k < l.length) (hc:c < z):l.flatten[k * z+c]? =(l.getD k [])[c]?:=by
 induction l generalizing k with
 |nil=>simp at hk
 |cons x l ih=>
  have hx:=hl x (by simp);cases k with
  |zero=>
   simp only [List.flatten_cons,Nat.zero_mul,Nat.zero_add,List.getD_cons_zero];rw [List.getElem?_append_left (by omega)]
  |succ k=>
   simp only [List.flatten_cons,List.getD_cons_succ];rw [List.getElem?_append_right (by rw [hx,Nat.succ_mul];omega),hx,show (k+1) * z+c - z=k * z+c by rw [Nat.succ_mul];omega];exact ih (λ y hy=>hl y (by simp [hy])) (by simp at hk;omega)
theorem flat_set {z:Nat} {l:List (List Value)} (hl:∀ x∈l,x.length=z) {k c:Nat} (hk:k < l.length) (hc:c < z) (u:Value):l.flatten.set (k * z+c) u=(l.set k ((l.getD k []).set c u)).flatten:=by
 induction l generalizing k with
 |nil=>simp at hk
 |cons x l ih=>
  have hx:=hl x (by simp);cases k with
  |zero=>
   simp only [List.flatten_cons,Nat.zero_mul,Nat.zero_add,List.getD_cons_zero,List.set_cons_zero];rw [List.set_append_left _ _ (by omega)]
  |succ k=>
   simp only [List.flatten_cons,List.getD_cons_succ,List.set_cons_succ];rw [List.set_append_right _ _ (by rw [hx,Nat.succ_mul];omega),hx,show (k+1) * z+c - z=k * z+c by rw [Nat.succ_mul];omega];rw [ih (λ y hy=>hl y (by simp [hy])) (by simp at hk;omega)]
def Fp (l:List (Int×List Xg)) (vs:List Value):List Value:=(List.zipWith (λ (p:Int×List Xg) v=>[U Y p.1,v]) l vs).flatten
def Hh (l:List (Int×List Nat)) (vs:List Value):List Value:=(List.zipWith (λ (p:Int×List Nat) v=>[U Y p.1,v]) l vs).flatten
def Ba (w:W) (lab:Nat->Nat) (i:Nat) (v:Value) (l:List (Int×List Xg)):Prop:=
 ∃ vs:List Value,vs.length=l.length/\Uj w lab i 110 2 (Fp l vs) l.length v/\∀ k,k < l.length->Uj w lab i 106 3 (Yl (l.getD k (0,[])).2) (l.getD k (0,[])).2.length (vs.getD k undef)
def Bd (w:W) (lab:Nat->Nat) (i:Nat) (v:Value) (l:List (Int×List Nat)):Prop:=
 ∃ vs:List Value,vs.length=l.length/\Uj w lab i 63 2 (Hh l vs) l.length v/\∀ k,k < l.length->Uj w lab i 51 1 ((l.getD k (0,[])).2.map (Z V)) (l.getD k (0,[])).2.length (vs.getD k undef)
theorem Ba.carry {l:List (Int×List Xg)} (h:Ba w lab i v l) (m:Ze S w w') (hs:Gl S w lab qJ) (hi:i∉qJ) (ha:Ji w lab lab'):Ba w' lab' i v l:=by
 obtain ⟨vs,h1,h2,h3⟩:=h;exact ⟨vs,h1,h2.carry m hs hi ha,λ k hk=>(h3 k hk).carry m hs hi ha⟩
theorem Bd.carry {l:List (Int×List Nat)} (h:Bd w lab i v l) (m:Ze S w w') (hs:Gl S w lab qJ) (hi:i∉qJ) (ha:Ji w lab lab'):Bd w' lab' i v l:=by
 obtain ⟨vs,h1,h2,h3⟩:=h;exact ⟨vs,h1,h2.carry m hs hi ha,λ k hk=>(h3 k hk).carry m hs hi ha⟩
theorem Gs {α:Type} {f:α->Value} {l:List α} {vs:List Value}:∀ x∈List.zipWith (λ p v=>[f p,v]) l vs,x.length=2:=by
 intro x hx;obtain ⟨k,hk,rfl⟩:=List.mem_iff_getElem.1 hx;simp
theorem progV_at {l:List (Int×List Xg)} {vs:List Value} (hv:vs.length=l.length) {k:Nat} (hk:k < l.length):(Fp l vs)[k * 2]? =I (U Y (l.getD k (0,[])).1)/\(Fp l vs)[k * 2+1]? =I (vs.getD k undef):=by
 have hk':k < vs.length:=by omega
 have e:(List.zipWith (λ (p:Int×List Xg) v=>[U Y p.1,v]) l vs).getD k []=[U Y (l.getD k (0,[])).1,vs.getD k undef]:=by
  rw [G_,List.getElem?_eq_getElem (by simp;omega)];simp [hk,hk']
 constructor
 ·have:=Fy (z:=2) (c:=0) (Gs (f:=λ p:Int×List Xg=>U Y p.1) (l:=l) (vs:=vs)) (k:=k) (by simp;omega) (by omega);rw [e] at this;exact this
 ·have:=Fy (z:=2) (c:=1) (Gs (f:=λ p:Int×List Xg=>U Y p.1) (l:=l) (vs:=vs)) (k:=k) (by simp;omega) (by omega);rw [e] at this;exact this
theorem callV_at {l:List (Int×List Nat)} {vs:List Value} (hv:vs.length=l.length) {k:Nat} (hk:k < l.length):(Hh l vs)[k * 2]? =I (U Y (l.getD k (0,[])).1)/\(Hh l vs)[k * 2+1]? =I (vs.getD k undef):=by
 have hk':k < vs.length:=by omega
 have e:(List.zipWith (λ (p:Int×List Nat) v=>[U Y p.1,v]) l vs).getD k []=[U Y (l.getD k (0,[])).1,vs.getD k undef]:=by
  rw [G_,List.getElem?_eq_getElem (by simp;omega)];simp [hk,hk']
 constructor
 ·have:=Fy (z:=2) (c:=0) (Gs (f:=λ p:Int×List Nat=>U Y p.1) (l:=l) (vs:=vs)) (k:=k) (by simp;omega) (by omega);rw [e] at this;exact this
 ·have:=Fy (z:=2) (c:=1) (Gs (f:=λ p:Int×List Nat=>U Y p.1) (l:=l) (vs:=vs)) (k:=k) (by simp;omega) (by omega);rw [e] at this;exact this
structure DX where
 (va vr vw vo:Value)
 (st ah fr til:Int)
def Qm:DX:=⟨L O 0 0,L O 0 0,L O 0 0,L O 0 0,0,0,0,0⟩
def Qi:Zu:=⟨0,0,0,0,[],0,0,[],[],[],0,0,0,0,0⟩
def Z9 (d:Zu) (e:DX):List Value:=[U Y d.th,U Y d.no,U Y d.prog,U Y d.tag,e.va,U Y d.mark,U Y d.number,e.vr,e.vw,e.vo,U Y d.qq,U Y d.qn,U Y d.zd,U Y d.bgn,U Y d.ended,U Y e.st,U Y e.ah,U Y e.fr,U Y e.til]
structure Au (w:W) (lab:Nat->Nat) (i:Nat) (d:Zu) (e:DX):Prop where
 ra:Uj w lab i 51 1 (d.args.map (Z V)) d.args.length e.va
 rr:Uj w lab i 53 2 (Yj d.reads) d.reads.length e.vr
 rw:Uj w lab i 53 2 (Yj d.writes) d.writes.length e.vw
 ro:Uj w lab i 51 1 (d.out.map (Z V)) d.out.length e.vo
theorem Au.carry {d:Zu} {e:DX} (h:Au w lab i d e) (m:Ze S w w') (hs:Gl S w lab qJ) (hi:i∉qJ) (ha:Ji w lab lab'):Au w' lab' i d e:=
 ⟨h.ra.carry m hs hi ha,h.rr.carry m hs hi ha,h.rw.carry m hs hi ha,h.ro.carry m hs hi ha⟩
def Va (l:List Zu) (es:List DX):List Value:=(List.zipWith Z9 l es).flatten
structure Kl (w:W) (lab:Nat->Nat) (i j:Nat) (v:Value) (l:List Zu) (es:List DX):Prop where
 len:es.length=l.length
 row:Uj w lab i 50 19 (Va l es) l.length v
 rows:∀ k,k < l.length->Au w lab j (l.getD k Qi) (es.getD k Qm)
theorem Kl.carry {l:List Zu} {es:List DX} (h:Kl w lab i j v l es) (m:Ze S w w') (hs:Gl S w lab qJ) (hi:i∉qJ) (hj:j∉qJ) (ha:Ji w lab lab'):Kl w' lab' i j v l es:=
 ⟨h.len,h.row.carry m hs hi ha,λ k hk=>(h.rows k hk).carry m hs hj ha⟩
theorem Fa {l:List Zu} {es:List DX}:∀ x∈List.zipWith Z9 l es,x.length=19:=by
 intro x hx;obtain ⟨k,hk,rfl⟩:=List.mem_iff_getElem.1 hx;simp [Z9]
theorem N8 {l:List Zu} {es:List DX} (he:es.length=l.length) {k:Nat} (hk:k < l.length):(List.zipWith Z9 l es).getD k []=Z9 (l.getD k Qi) (es.getD k Qm):=by
 have hk':k < es.length:=by omega
 rw [G_,List.getElem?_eq_getElem (by simp;omega)];simp [hk,hk']
theorem Hb {l:List Zu} {es:List DX} (he:es.length=l.length) {k c:Nat} (hk:k < l.length) (hc:c < 19):(Va l es)[k * 19+c]? =(Z9 (l.getD k Qi) (es.getD k Qm))[c]?:=by
 unfold Va;rw [Fy Fa (by simp;omega) hc,N8 he hk]
end
section
variable {w0 w w1 w':W} {lab lab':Nat->Nat} {S qJ:List Nat} {i j n t k:Nat} {v:Value} {s s':Zn}
structure EP where
 (x a b r:Nat)
 (vp vt vd:Value)
 kt:Nat->Nat
 (vc gv:Nat->Value)
 ai:Nat->Int
 es:List DX
def Xy (k:Nat):Value:=E (I ⟨k,0,O⟩)
def Gg (P:EP) (s:Zn):Array Value:=#[U Y s.c0,U Y s.c1,U Y s.c2,U Y s.c3,P.vp,U Y 0,U Y 1,U Y 2,U Y 3,U Y (Z2 s.c1),U Y (Zw s.c0 s.c1),Xy P.a,Xy P.r,P.vt,P.vd,U Y s.steps]
def Qp (vc:Value) (begun:Nat) (gv:Value) (ai:Int):Array Value:=#[vc,U Y begun,gv,U Y ai]
def Mq (w:W) (lab:Nat->Nat) (i:Nat) (gv:Value):Option Qt->Prop
 |none=>gv=.nilIface
 |some (.wr x)=>∃ q,gv=.iface 140 (Xy q.k)/\Zz w q x/\(x.part<=8->q.nx=Xi x.part)/\∀ n∈q.blocks,lab n=i
 |some (.rd x)=>∃ q,gv=.iface 142 (Xy q.k)/\Yc w q x/\∀ n∈q.blocks,lab n=i
def Zn.zi (s:Zn) (t:Nat):Option Qt:=
 match (s.th t).cur with
 |none=>O
 |some i=>match s.qe[i]? with|some x=>x.g|none=>O
theorem Mq.carry {g:Option Qt} (h:Mq w lab i v g) (m:Ze S w w') (hs:Gl S w lab qJ) (hi:i∉qJ) (ha:Ji w lab lab'):Mq w' lab' i v g:=by
 match g,h with
 |none,h=>exact h
 |some (.wr x),⟨q,h1,h2,h3,h4⟩=>exact ⟨q,h1,h2.mod m (λ n hn=>hs.od hi (h4 n hn) (h2.lt hn)),h3,λ n hn=>(ha n (h2.lt hn)).trans (h4 n hn)⟩
 |some (.rd x),⟨q,h1,h2,h4⟩=>exact ⟨q,h1,h2.mod m (λ n hn=>hs.od hi (h4 n hn) (h2.lt hn)),λ n hn=>(ha n (h2.lt hn)).trans (h4 n hn)⟩
structure Ys (w0 w:W) (lab:Nat->Nat) (P:EP) (s:Zn):Prop where
 hx:w.heap[P.x]? =I (.cells (Gg P s) 79 (0,0))
 mem:Zj 137 w P.a P.b s.mem
 j4:Qd w P.r s.c1
 prog:Ba w lab 6 P.vp s.progs
 zu:Uj w lab 4 83 1 ((List.range s.qi.length).map (λ t=>Xy (P.kt t))) s.qi.length P.vt
 jn:∀ t,t < s.qi.length->w.heap[P.kt t]? =I (.cells (Qp (P.vc t) (s.th t).begun (P.gv t) (P.ai t)) 87 (0,0))
 lt:∀ t,t < s.qi.length->lab (P.kt t)=10+t
 call:∀ t,t < s.qi.length->Bd w lab 6 (P.vc t) (s.th t).calls
 cur:∀ t i,t < s.qi.length->(s.th t).cur=I i->P.ai t=i
 go:∀ t,t < s.qi.length->Mq w lab (30+t) (P.gv t) (s.zi t)
 ze:Kl w lab 5 6 P.vd (s.qe.map (·.raw)) P.es
 n1:1<=s.qi.length
 n8:s.qi.length<=8
 nt:s.c1=s.qi.length
 lx:lab P.x=1
 la:lab P.a=2
 lb:lab P.b=2
 lr:lab P.r=3
 jl:∀ n,n < w0.heap.size->lab n=0
 fr:Ze [] w0 w
structure Kept (w0 w':W) (lab':Nat->Nat) (P:EP) (s:Zn) (qJ:List Nat):Prop where
 hx:1∉qJ->w'.heap[P.x]? =I (.cells (Gg P s) 79 (0,0))
 mem:2∉qJ->Zj 137 w' P.a P.b s.mem
 j4:3∉qJ->Qd w' P.r s.c1
 prog:Ba w' lab' 6 P.vp s.progs
 zu:Uj w' lab' 4 83 1 ((List.range s.qi.length).map (λ t=>Xy (P.kt t))) s.qi.length P.vt
 jn:∀ t,t < s.qi.length->10+t∉qJ->w'.heap[P.kt t]? =I (.cells (Qp (P.vc t) (s.th t).begun (P.gv t) (P.ai t)) 87 (0,0))
 lt:∀ t,t < s.qi.length->lab' (P.kt t)=10+t
 call:∀ t,t < s.qi.length->Bd w' lab' 6 (P.vc t) (s.th t).calls
 go:∀ t,t < s.qi.length->30+t∉qJ->Mq w' lab' (30+t) (P.gv t) (s.zi t)
 ze:5∉qJ->Kl w' lab' 5 6 P.vd (s.qe.map (·.raw)) P.es
 lx:lab' P.x=1
 la:lab' P.a=2
 lb:lab' P.b=2
 lr:lab' P.r=3
 jl:∀ n,n < w0.heap.size->lab' n=0
 fr:Ze [] w0 w'
variable {P:EP}
theorem Ys.ge (h:Ys w0 w lab P s) (hn:lab n≠0):w0.heap.size<=n:=by
 by_cases hl:n < w0.heap.size
 ·exact absurd (h.jl n hl) hn
 ·omega
theorem Ys.jo (h:Ys w0 w lab P s) (m:Ze S w w') (hs:Gl S w lab qJ) (h0:0∉qJ) (h4:4∉qJ) (h6:6∉qJ) (ha:Ji w lab lab'):Kept w0 w' lab' P s qJ where
 hx:=λ hj=>m.at h.hx (hs.od hj h.lx (B9 h.hx))
 mem:=λ hj=>h.mem.mod m (hs.od hj h.la h.mem.jf) (hs.od hj h.lb h.mem.je)
 j4:=λ hj=>h.j4.mod m (hs.od hj h.lr h.j4.lt)
 prog:=h.prog.carry m hs h6 ha
 zu:=h.zu.carry m hs h4 ha
 jn:=λ t ht hj=>m.at (h.jn t ht) (hs.od hj (h.lt t ht) (B9 (h.jn t ht)))
 lt:=λ t ht=>(ha _ (B9 (h.jn t ht))).trans (h.lt t ht)
 call:=λ t ht=>(h.call t ht).carry m hs h6 ha
 go:=λ t ht hj=>(h.go t ht).carry m hs hj ha
 ze:=λ hj=>h.ze.carry m hs hj h6 ha
 lx:=(ha _ (B9 h.hx)).trans h.lx
 la:=(ha _ h.mem.jf).trans h.la
 lb:=(ha _ h.mem.je).trans h.lb
 lr:=(ha _ h.j4.lt).trans h.lr
 jl:=λ n hn=>(ha n (Nat.lt_of_lt_of_le hn h.fr.size)).trans (h.jl n hn)
 fr:=h.fr.then m (λ n hn=>.inr (by
  by_cases hl:n < w.heap.size
  ·refine h.ge (λ e=>h0 ?_);rw [<-e];exact hs n hn hl
  ·exact Nat.le_trans h.fr.size (by omega)))
theorem Ys.quiet (h:Ys w0 w lab P s) (m:Ze [] w w') (ha:Ji w lab lab'):Ys w0 w' lab' P s:=by
 have k:=h.jo (qJ:=[]) m (by intro n hn;simp at hn) (by simp) (by simp) (by simp) ha;exact ⟨k.hx (by simp),k.mem (by simp),k.j4 (by simp),k.prog,k.zu,λ t ht=>k.jn t ht (by simp),k.lt,k.call,h.cur,λ t ht=>k.go t ht (by simp),k.ze (by simp),h.n1,h.n8,h.nt,k.lx,k.la,k.lb,k.lr,k.jl,k.fr⟩
theorem Ys.row (h:Ys w0 w lab P s):∃ g cap,P.vt=L (I ⟨g,0,O⟩) s.qi.length cap/\lab g=4/\g < w.heap.size/\∀ t,t < s.qi.length->w.cell? ⟨g,t,O⟩=I (Xy (P.kt t)):=by
 obtain ⟨g,cap,e,_⟩:=Ya h.zu.row h.n1;have hr:=h.zu.row;rw [e] at hr;exact ⟨g,cap,e,h.zu.own g (by rw [e];rfl),Yr hr J,λ t ht=>(hr.cellAt t (by omega)).trans (by simp [ht])⟩
end
end Go.Proofs.YtkhonmhnchdpkaaGreat
