/- A part of the proof; no condition. -/
import Derived.Test.YtkhonmhnchdpkaaGreatS19
set_option maxRecDepth 100000
set_option maxHeartbeats 40000000
namespace Go.Proofs.YtkhonmhnchdpkaaGreat
open Go.RowKit _root_.Go.Proofs.Tryz
section
variable {w w' w0 w1 w2:World} {a b:Nat} {s s':Zj} {n:Value}
theorem Xc.modS {q:WP} {x:Z5} (h:Xc w q a b x n s w') (hM:Zh 137 w a b s):Ze q.blocks w w':=by
 obtain ⟨r,h1,h2,h3,_⟩:=h
 refine ⟨h3.md.os,h3.md.tape,h3.md.output,h3.md.size,fun k hk hn=>?_⟩
 by_cases ha:k=a
 ·subst ha;exact h2.hd.trans hM.hd.symm
 ·by_cases hb:k=b
  ·subst hb;exact h2.ws.trans hM.ws.symm
  ·exact h3.md.block k hk (by simp [ha,hb,hn])
theorem Xc.grS {q:WP} {x:Z5} (h:Xc w q a b x n s w'):∃ r,Zv w' r x∧Zh 137 w' a b s∧r.k=q.k∧r.nx=n∧∀ k∈r.blocks,k∈q.blocks∨w.heap.size≤k:=by
 obtain ⟨r,h1,h2,h3,h4,_,h6⟩:=h
 refine ⟨r,h1,h2,h4,h6,fun k hk=>?_⟩
 rcases h3.gr k (by simp [hk]) with hh|hh
 ·simp only [List.mem_cons] at hh
  rcases hh with rfl|rfl|hh
  ·exact absurd hk (h1.a_nin h2)
  ·exact absurd hk (h1.b_nin h2)
  ·exact .inl hh
 ·exact .inr hh
theorem Qi.modS {q:RP} {x:Yk} (h:Qi w q a b x s w') (hM:Zh 137 w a b s):Ze q.blocks w w':=by
 obtain ⟨r,h1,h2,h3,_⟩:=h
 refine ⟨h3.md.os,h3.md.tape,h3.md.output,h3.md.size,fun k hk hn=>?_⟩
 by_cases ha:k=a
 ·subst ha;exact h2.hd.trans hM.hd.symm
 ·by_cases hb:k=b
  ·subst hb;exact h2.ws.trans hM.ws.symm
  ·exact h3.md.block k hk (by simp [ha,hb,hn])
theorem Qi.grS {q:RP} {x:Yk} (h:Qi w q a b x s w'):∃ r,Z9 w' r x∧Zh 137 w' a b s∧r.k=q.k∧∀ k∈r.blocks,k∈q.blocks∨w.heap.size≤k:=by
 obtain ⟨r,h1,h2,h3,h4,_⟩:=h
 refine ⟨r,h1,h2,h4,fun k hk=>?_⟩
 rcases h3.gr k (by simp [hk]) with hh|hh
 ·simp only [List.mem_cons] at hh
  rcases hh with rfl|rfl|hh
  ·exact absurd hk (h1.a_nin h2)
  ·exact absurd hk (h1.b_nin h2)
  ·exact .inl hh
 ·exact .inr hh
theorem Xc.argsV {q:WP} {x:Z5} (h:Xc w q a b x n s w1):∃ v cs,w1.heap[q.k]? =some (.cells cs 161 (0,0))∧cs[10]? =some v∧w1.ownsRow 0 51 1 v x.args.length (x.args.map (Value.float .f64))∧(∀ g,v.ownBlock=some g→g≠q.k)∧
  (∀ w5 w' v' y,Ze v.ownBlock.toList w1 w5→Uq w1 v v'→w5.ownsRow 0 51 1 v' (x.args.length+1) ((x.args++[y]).map (Value.float .f64))→w'=w5.setCell ⟨q.k,10,none⟩ v'→Xc w q a b {x with args:=x.args++[y]} n s w'):=by
 obtain ⟨r,h1,h2,h3,h4,h5,h6⟩:=h
 have na:=h1.a_nin h2
 have nb:=h1.b_nin h2
 have kin:r.k∈r.blocks:=WP.mem.2 (.inl rfl)
 refine ⟨r.va,_,by rw [←h4];exact h1.hd,rfl,h1.args,fun g hg=>by rw [←h4];exact h1.rest (by simp [hg]),fun w5 w' v' y m5 ho hr hw'=>?_⟩
 subst hw'
 have inw:∀ g∈r.va.ownBlock.toList,g∈r.blocks:=fun g hg=>WP.mem.2 (by simp at hg;simp [hg])
 have nk:r.k∉r.va.ownBlock.toList:=fun hk=>h1.rest (g:=r.k) (by simp at hk;simp [hk]) rfl
 have mk:Ze [r.k] w5 (w5.setCell ⟨q.k,10,none⟩ v'):=(Zr_ _ _).setCell _ _ (.inl (by simp [h4]))
 have m:Ze (r.k :: r.va.ownBlock.toList) w1 (w5.setCell ⟨q.k,10,none⟩ v'):=(m5.mono (fun g hg=>.inl (by simp at hg ⊢;simp [hg]))).trans (mk.mono (fun g hg=>.inl (by simp at hg ⊢;simp [hg])))
 have hd5:=m5.at h1.hd nk
 have hdk:(w5.setCell ⟨q.k,10,none⟩ v').heap[r.k]? =some (.cells (Uv {r with va:=v'} {x with args:=x.args++[y]}) 161 (0,0)):=by
  rw [h4] at hd5 ⊢
  exact Zd (i:=10) v' hd5
 have nv':∀ g,v'.ownBlock=some g→g≠r.k:=fun g hg e=>by
  subst e
  have:=Zn hd5
  rw [Yc hr hg] at this
  exact absurd this (by decide)
 have out:∀ g,(g∈r.p.blocks∨r.vw.ownBlock=some g∨r.sc=some g∨r.bk=some g)→g∉r.k :: r.va.ownBlock.toList:=by
  intro g hg hm
  simp only [List.mem_cons,Option.mem_toList] at hm
  rcases hm with hm|hm
  ·exact h1.rest (g:=g) (by rcases hg with hg|hg|hg|hg <;> simp [hg]) hm
  ·have tg:=Yc h1.args hm
   rcases hg with hg|hg|hg|hg
   ·exact (h1.na g hm).2 hg
   ·exact (h1.na g hm).1 hg
   ·rw [h1.scan.ty hg] at tg;exact absurd tg (by decide)
   ·rw [h1.back.ty hg] at tg;exact absurd tg (by decide)
 have new:∀ g,v'.ownBlock=some g→r.vw.ownBlock≠some g∧g∉r.p.blocks:=by
  intro g hg
  rcases ho with ho|⟨g',ho,hge⟩
  ·exact h1.na g (ho ▸ hg)
  ·rw [ho] at hg;obtain rfl:=Zo_ hg
   exact ⟨fun e=>by have:=Yr h1.was e;omega,fun hk=>by have:=h1.mach.lt hk;omega⟩
 refine ⟨{r with va:=v'},⟨hdk,h1.mach.mod m (fun g hg=>out g (.inl hg)),?_,Zs h1.was m (fun g hg=>out g (by simp [hg])),h1.scan.mod m (fun g hg=>out g (by simp [hg])),h1.back.mod m (fun g hg=>out g (by simp [hg])),new,h1.nw⟩,
  h2.mod m (fun hh=>na (by simp only [List.mem_cons] at hh;rcases hh with rfl|hh;exact kin;exact inw _ hh)) (fun hh=>nb (by simp only [List.mem_cons] at hh;rcases hh with rfl|hh;exact kin;exact inw _ hh)),
  h3.trans ⟨m.mono (fun g hg=>.inl (by simp only [List.mem_cons] at hg ⊢;rcases hg with rfl|hg;simp [kin];simp [inw g hg])),fun g hg=>?_⟩,h4,h5,h6⟩
 ·have:=Zs hr mk (fun g hg=>by simp [nv' g hg])
  simpa using this
 ·simp only [List.mem_cons,WP.mem] at hg ⊢
  rcases hg with hg|hg|hg|hg|hg|hg|hg|hg
  ·simp [hg]
  ·simp [hg]
  ·simp [hg]
  ·simp [hg]
  ·rcases ho with ho|⟨g',ho,hge⟩
   ·rw [ho] at hg;simp [hg]
   ·rw [ho] at hg;obtain rfl:=Zo_ hg;exact .inr hge
  ·simp [hg]
  ·simp [hg]
  ·simp [hg]
theorem Qi.argsV {q:RP} {x:Yk} (h:Qi w q a b x s w1):∃ v cs,w1.heap[q.k]? =some (.cells cs 168 (0,0))∧cs[8]? =some v∧w1.ownsRow 0 51 1 v x.args.length (x.args.map (Value.float .f64))∧(∀ g,v.ownBlock=some g→g≠q.k)∧
  (∀ w5 w' v' y,Ze v.ownBlock.toList w1 w5→Uq w1 v v'→w5.ownsRow 0 51 1 v' (x.args.length+1) ((x.args++[y]).map (Value.float .f64))→w'=w5.setCell ⟨q.k,8,none⟩ v'→Qi w q a b {x with args:=x.args++[y]} s w'):=by
 obtain ⟨r,h1,h2,h3,h4,h5,h6⟩:=h
 have na:=h1.a_nin h2
 have nb:=h1.b_nin h2
 have kin:r.k∈r.blocks:=RP.mem.2 (.inl rfl)
 refine ⟨r.va,_,by rw [←h4];exact h1.hd,rfl,h1.args,fun g hg=>by rw [←h4];exact h1.rest (by simp [hg]),fun w5 w' v' y m5 ho hr hw'=>?_⟩
 subst hw'
 have inw:∀ g∈r.va.ownBlock.toList,g∈r.blocks:=fun g hg=>RP.mem.2 (by simp at hg;simp [hg])
 have nk:r.k∉r.va.ownBlock.toList:=fun hk=>h1.rest (g:=r.k) (by simp at hk;simp [hk]) rfl
 have mk:Ze [r.k] w5 (w5.setCell ⟨q.k,8,none⟩ v'):=(Zr_ _ _).setCell _ _ (.inl (by simp [h4]))
 have m:Ze (r.k :: r.va.ownBlock.toList) w1 (w5.setCell ⟨q.k,8,none⟩ v'):=(m5.mono (fun g hg=>.inl (by simp at hg ⊢;simp [hg]))).trans (mk.mono (fun g hg=>.inl (by simp at hg ⊢;simp [hg])))
 have hd5:=m5.at h1.hd nk
 have hdk:(w5.setCell ⟨q.k,8,none⟩ v').heap[r.k]? =some (.cells (Je {r with va:=v'} {x with args:=x.args++[y]}) 168 (0,0)):=by
  rw [h4] at hd5 ⊢
  exact Zd (i:=8) v' hd5
 have nv':∀ g,v'.ownBlock=some g→g≠r.k:=fun g hg e=>by
  subst e
  have:=Zn hd5
  rw [Yc hr hg] at this
  exact absurd this (by decide)
 have out:∀ g,(g=r.cm∨g∈r.p.blocks∨r.rd=some g)→g∉r.k :: r.va.ownBlock.toList:=by
  intro g hg hm
  simp only [List.mem_cons,Option.mem_toList] at hm
  rcases hm with hm|hm
  ·exact h1.rest (g:=g) (by rcases hg with hg|hg|hg <;> simp [hg]) hm
  ·have tg:=Yc h1.args hm
   rcases hg with hg|hg|hg
   ·rw [hg,Zn h1.com] at tg;exact absurd tg (by decide)
   ·exact h1.na g hm hg
   ·rw [h1.read.ty hg] at tg;exact absurd tg (by decide)
 have new:∀ g,v'.ownBlock=some g→g∉r.p.blocks:=by
  intro g hg
  rcases ho with ho|⟨g',ho,hge⟩
  ·exact h1.na g (ho ▸ hg)
  ·rw [ho] at hg;obtain rfl:=Zo_ hg
   exact fun hk=>by have:=h1.mach.lt hk;omega
 refine ⟨{r with va:=v'},⟨hdk,h1.mach.mod m (fun g hg=>out g (by simp [hg])),?_,m.at h1.com (out _ (by simp)),h1.read.mod m (fun g hg=>out g (by simp [hg])),new⟩,
  h2.mod m (fun hh=>na (by simp only [List.mem_cons] at hh;rcases hh with rfl|hh;exact kin;exact inw _ hh)) (fun hh=>nb (by simp only [List.mem_cons] at hh;rcases hh with rfl|hh;exact kin;exact inw _ hh)),
  h3.trans ⟨m.mono (fun g hg=>.inl (by simp only [List.mem_cons] at hg ⊢;rcases hg with rfl|hg;simp [kin];simp [inw g hg])),fun g hg=>?_⟩,h4,h5,h6⟩
 ·have:=Zs hr mk (fun g hg=>by simp [nv' g hg])
  simpa using this
 ·simp only [List.mem_cons,RP.mem] at hg ⊢
  rcases hg with hg|hg|hg|hg|hg|hg|hg
  ·simp [hg]
  ·simp [hg]
  ·simp [hg]
  ·simp [hg]
  ·simp [hg]
  ·rcases ho with ho|⟨g',ho,hge⟩
   ·rw [ho] at hg;simp [hg]
   ·rw [ho] at hg;obtain rfl:=Zo_ hg;exact .inr hge
  ·simp [hg]
end
end Go.Proofs.YtkhonmhnchdpkaaGreat
