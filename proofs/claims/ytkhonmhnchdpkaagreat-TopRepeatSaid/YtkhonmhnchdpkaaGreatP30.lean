/- A part of the proof; no condition. -/
import Derived.Test.YtkhonmhnchdpkaaGreatP28
import Derived.Test.YtkhonmhnchdpkaaGreatP29
set_option maxRecDepth 100000
set_option maxHeartbeats 40000000
namespace Go.Proofs.YtkhonmhnchdpkaaGreat
open Go.RowKit _root_.Go.Proofs.Tryz
section
variable {c0 c1 t:Int} {x:Z2} {y:Yg}
theorem Jz.ok (h:Jz c0 c1 x):Kx x:=by
 refine ⟨h.p1,h.p8,h.mo,?_,λ hp=>?_,λ hp=>?_⟩
 ·have:=h.was;have:=h.buf.room;have:=h.most;omega
 ·obtain ⟨nx,po,h0,h1,e⟩:=h.scan hp;exact ⟨_,e,⟨h0,λ _ _=>by show nx<=c1;omega⟩⟩
 ·obtain ⟨h1,n,h2,h3,e⟩:=h.wr hp;refine ⟨h1,h.was,?_⟩;rw [e];exact ⟨h2,by show n<=3;omega⟩
theorem Ks.ok (h:Ks c0 c1 t y):T4 y:=
 ⟨h.p1,h.p3,h.mo,h.ci,λ r hr=>by
  obtain ⟨_,hw,o⟩:=h.rd r hr;have:=o.pa3;exact ⟨⟨o.pa0,by omega⟩,hw⟩⟩
theorem Ym.goes {s:Zq} (h:Ym s):s.Goes:=λ t i ht hc=>by
 obtain ⟨raw,g,hx,_⟩:=h.cur t i ht hc;exact ⟨_,g,hx,rfl⟩
end
section
variable {w0 w w' w1:World} {lab lab' lab1:Nat->Nat} {P P':EP} {s s':Zq} {t i:Nat} {S J:List Nat}
theorem Dc {α:Type} {l:List α} {i:Nat} {d:α} (h:i < l.length):l.set i (l.getD i d)=l:=by
 rw [List.getD_eq_getElem?_getD,List.getElem?_eq_getElem h];simp
theorem Rb {α β γ:Type} (f:α->β->γ) (l:List α) (m:List β) (i:Nat) (a:α) (b:β):List.zipWith f (l.set i a) (m.set i b)=(List.zipWith f l m).set i (f a b):=by
 induction l generalizing m i with
 |nil=>simp
 |cons x l ih=>
  cases m with
  |nil=>cases i <;> simp
  |cons y m=>
   cases i with
   |zero=>simp
   |succ i=>simp [ih]
theorem Wq {l:List Zv} {es:List DX} (he:es.length=l.length) {i c:Nat} (hi:i < l.length) (hc:c < 19) {d:Zv} {x:DX} {u:Value} (hd:(Z5 (l.getD i Qc) (es.getD i X0)).set c u=Z5 d x):
  (Qq l es).set (i * 19+c) u=Qq (l.set i d) (es.set i x):=by
 unfold Qq;rw [flat_set Gi (by simp;omega) hc,Pt he hi,hd,Rb]
theorem Yu.deedCell (h:Yu w0 w lab P s) (hi:i < s.txs.length):∃ dg dc,P.vd=.slice (some ⟨dg,0,none⟩) s.txs.length dc/\dg < w.heap.size/\lab dg=5/\w.ownsRow 0 50 19 (.slice (some ⟨dg,0,none⟩) s.txs.length dc) s.txs.length (Qq (s.txs.map (·.raw)) P.es):=by
 have hr:=h.deeds.row;have hdl:(s.txs.map (·.raw)).length=s.txs.length:=by simp
 rw [hdl] at hr;obtain ⟨dg,dc,e,l,o⟩:=Pc hr (by omega);rw [e] at hr;exact ⟨dg,dc,e,l,o,hr.row⟩
theorem drew_c (h:Yu w0 w lab P s) (k:Ym s) (ht:t < s.ths.length) (hc:(s.th t).cur=some i):
  Calls Tryz.prog 46 #[Xs P.x,Xs (P.kt t)] w λ e w'=>e=.returned (.tuple #[])/\Uq w0 w lab P s w':=by
 obtain ⟨raw,g,hx,hth,_⟩:=k.cur t i ht hc;have hi:=(List.getElem?_eq_some_iff.1 hx).1;have hgo:s.goer t=some g:=by unfold Zq.goer;rw [hc];simp [hx]
 obtain ⟨u,hu,hcu,_,hG⟩:=k.tx i raw g hx;obtain rfl:=k.one ht hu hc hcu;have G:=h.go t ht;rw [hgo] at G;have K:=h.thd t ht;cases g with
 |rd y=>
  obtain ⟨q,e,_⟩:=G;rw [e] at K;refine (drew_rd K).mono ?_;rintro e w' ⟨rfl,m⟩;exact ⟨rfl,lab,P,h.quiet m Z1,Ha.refl P,Kp.quiet m Z1⟩
 |wr y=>
  have hG:Jz s.c0 s.c1 y:=hG;obtain ⟨q,e,hq,_,_⟩:=G;unfold Qg at K;rw [e] at K;obtain ⟨dg,dc,hvd,hdl,hdo,hrow⟩:=h.deedCell hi;obtain ⟨tg,tc,hvt,_,tgl,hT⟩:=h.row;have X:=h.hx;unfold J6 at X;rw [hvd,hvt] at X;have hle:=h.deeds.len;have hdl':(s.txs.map (·.raw)).length=s.txs.length:=by simp
  have hcell:=hrow.cellAt (i * 19+16) (by omega);rw [Bl hle (by omega) (by omega)] at hcell;refine (drew_wr X K hq hG.mo (by have:=hG.ar;omega) h.mem (h.cur t i ht hc) hi hdl hcell (hrow.frozenAt _)).mono ?_;rintro e w' ⟨rfl,w1,n,m,rfl⟩;obtain ⟨hst,hgr⟩:=(Ye hrow m).stored (i * 19+16) (.int .i64 n);have m2:Ze [dg] w (w1.setCell ⟨dg,i * 19+16,none⟩ (.int .i64 n)):=(m.weak [dg]).setCell _ _ (.inl (by simp));have hs:Kb [dg] w lab [5]:=by intro j hj _;simp at hj;subst hj;simp [hdo]
  have KK:=h.keep m2 hs (by simp) (by simp) (by simp) Z1;refine ⟨rfl,lab,{P with es:=P.es.set i {P.es.getD i X0 with ah:=n}},?_,⟨rfl,rfl,rfl,rfl,rfl⟩,Kp.of m2 hs (by simp) Z1⟩;refine {hx:=KK.hx (by simp),mem:=KK.mem (by simp),rnd:=KK.rnd (by simp),prog:=KK.prog,trow:=KK.trow,thd:=λ u hu=>KK.thd u hu (by simp;omega),lt:=KK.lt,call:=KK.call,cur:=h.cur,go:=λ u hu=>KK.go u hu (by simp;omega),deeds:=?_,n1:=h.n1,n8:=h.n8,nt:=h.nt,lx:=KK.lx,la:=KK.la,lb:=KK.lb,lr:=KK.lr,old:=KK.old,fr:=KK.fr};refine ⟨by simp [hle],⟨?_,?_⟩,?_⟩
  ·rw [hdl',show P.vd=_ from hvd];have e:(Qq (s.txs.map (·.raw)) P.es).set (i * 19+16) (.int .i64 n)=Qq (s.txs.map (·.raw)) (P.es.set i {P.es.getD i X0 with ah:=n}):=by
    rw [Wq hle (by omega) (by omega) (d:=(s.txs.map (·.raw)).getD i Qc) (x:={P.es.getD i X0 with ah:=n}) rfl,Dc (by omega)]
   rw [<-e];exact hst
  ·exact h.deeds.row.own
  ·intro j hj;have hr:=(h.deeds.rows j hj).carry m2 hs (by simp) Z1
   by_cases e:i=j
   ·subst e;rw [show (P.es.set i {P.es.getD i X0 with ah:=n}).getD i X0={P.es.getD i X0 with ah:=n} by simp [List.getD_eq_getElem?_getD,hle,hi]];exact ⟨hr.ra,hr.rr,hr.rw,hr.ro⟩
   ·rw [show (P.es.set i {P.es.getD i X0 with ah:=n}).getD j X0=P.es.getD j X0 by simp [List.getD_eq_getElem?_getD,e]];exact hr
end
end Go.Proofs.YtkhonmhnchdpkaaGreat
