/- A part of the proof; no condition. -/
import Derived.Test.YtkhonmhnchdpkaaGreatS29
import Derived.Test.YtkhonmhnchdpkaaGreatS30
set_option maxRecDepth 100000
set_option maxHeartbeats 40000000
namespace Go.Proofs.YtkhonmhnchdpkaaGreat
open Go.RowKit _root_.Go.Proofs.Tryz
section
variable {w0 w w' w1:World} {lab lab' lab1:Nat→Nat} {P P':EP} {s s':Zr} {t:Nat} {S J:List Nat}
structure Kh (w:World) (lab:Nat→Nat) (w':World) (lab':Nat→Nat):Prop where
 size:w.heap.size≤w'.heap.size
 own:∀ n,n < w.heap.size→lab n=0→lab' n=0
 blk:∀ n,n < w.heap.size→lab n=0→w'.heap[n]? =w.heap[n]?
 os:w'.os=w.os
 tape:w'.tape=w.tape
 output:w'.output=w.output
theorem Kh.refl (w:World) (lab:Nat→Nat):Kh w lab w lab:=⟨Nat.le_refl _,fun _ _ h=>h,fun _ _ _=>rfl,rfl,rfl,rfl⟩
theorem Kh.trans (h:Kh w lab w1 lab1) (k:Kh w1 lab1 w' lab'):Kh w lab w' lab':=
 ⟨Nat.le_trans h.size k.size,fun n hn h0=>k.own n (Nat.lt_of_lt_of_le hn h.size) (h.own n hn h0),fun n hn h0=>(k.blk n (Nat.lt_of_lt_of_le hn h.size) (h.own n hn h0)).trans (h.blk n hn h0),k.os.trans h.os,k.tape.trans h.tape,k.output.trans h.output⟩
theorem Kh.of (m:Ze S w w') (hs:J4 S w lab J) (h0:0∉J) (ha:Uk w lab lab'):Kh w lab w' lab':=
 ⟨m.size,fun n hn h=>(ha n hn).trans h,fun n hn h=>m.block n hn (fun hm=>h0 (by rw [←h];exact hs n hm hn)),m.os,m.tape,m.output⟩
theorem Kh.quiet (m:Ze [] w w') (ha:Uk w lab lab'):Kh w lab w' lab':=Kh.of (J:=[]) m (by intro n hn;simp at hn) (by simp) ha
structure Fo (P P':EP):Prop where
 x:P'.x=P.x
 a:P'.a=P.a
 b:P'.b=P.b
 r:P'.r=P.r
 kt:P'.kt=P.kt
theorem Fo.refl (P:EP):Fo P P:=⟨rfl,rfl,rfl,rfl,rfl⟩
theorem Fo.trans {P P' P'':EP} (h:Fo P P') (k:Fo P' P''):Fo P P'':=⟨k.x.trans h.x,k.a.trans h.a,k.b.trans h.b,k.r.trans h.r,k.kt.trans h.kt⟩
def Uo (w0 w:World) (lab:Nat→Nat) (P:EP) (s':Zr) (w':World):Prop:=∃ lab' P',Yv w0 w' lab' P' s'∧Fo P P'∧Kh w lab w' lab'
theorem Hn {i n z:Nat} {ty:TypeId} {xs:List Value} {v:Value} (h:Vt w lab i ty z xs n v) (hn:0 < n):∃ g cap,v=.slice (some ⟨g,0,none⟩) n cap∧g < w.heap.size∧lab g=i:=by
 obtain ⟨g,cap,e,_⟩:=Yd h.row hn
 exact ⟨g,cap,e,Yr h.row (by rw [e];rfl),h.own g (by rw [e];rfl)⟩
theorem Gm {i n z j:Nat} {ty:TypeId} {xs:List Value} {g cap:Nat} {u:Value} (h:Vt w lab i ty z xs n (.slice (some ⟨g,0,none⟩) n cap)) (hj:j < n * z) (hu:xs[j]? =some u):w.cell? ⟨g,j,none⟩=some u:=
 (h.row.cellAt j hj).trans hu
theorem Mf (k:Ys s) {u:Nat} (hu:u < s.ths.length) (x:Wg) (ths:List Gc) (hth:(ths.getD u Gt).cur=(s.th u).cur):Zr.goer {s with ths:=ths,txs:=s.txs++[x]} u=s.goer u:=by
 unfold Zr.goer
 show (match (ths.getD u Gt).cur with|none=>none|some i=>match (s.txs++[x])[i]? with|some x=>x.g|none=>none)=_
 rw [hth]
 cases hc:(s.th u).cur with
 |none=>rfl
 |some i=>
  obtain ⟨raw,g,hx,_⟩:=k.cur u i hu hc
  simp only
  rw [List.getElem?_append_left (List.getElem?_eq_some_iff.1 hx).1]
  rfl
theorem G9 (l:List Z2) (es:List DX) (d:Z2) (e:DX) (he:es.length=l.length):Qn (l++[d]) (es++[e])=Qn l es++Z3 d e:=by
 unfold Qn
 rw [List.zipWith_append he.symm]
 simp
theorem Lk.nil {lab:Nat→Nat} {i:Nat} {d:Z2} (e:DX) (h1:e.va=.slice none 0 0) (h2:e.vr=.slice none 0 0) (h3:e.vw=.slice none 0 0) (h4:e.vo=.slice none 0 0) (g1:d.args=[]) (g2:d.reads=[]) (g3:d.writes=[]) (g4:d.out=[]):Lk w lab i d e:=
 ⟨by rw [h1,g1];exact Vt.nil _ _,by rw [h2,g2];exact Vt.nil _ _,by rw [h3,g3];exact Vt.nil _ _,by rw [h4,g4];exact Vt.nil _ _⟩
theorem Q3 {α:Type} {l:List α} {x d:α} {n:Nat} (h:n < l.length):(l++[x]).getD n d=l.getD n d:=by
 simp [List.getD_eq_getElem?_getD,List.getElem?_append_left h]
theorem Uj {α:Type} {l:List α} {x d:α}:(l++[x]).getD l.length d=x:=by
 simp [List.getD_eq_getElem?_getD]
theorem begin_c (h:Yv w0 w lab P s) (k:Ys s) (ht:t < s.ths.length) (hc:(s.th t).cur=none) (hb:(s.th t).begun < (s.th t).calls.length) (hnd:s.txs.length < 1000000000):
  Calls Tryz.prog 45 #[Xr P.x,.int .i64 t] w fun e w'=>e=.returned (.tuple #[])∧Uo w0 w lab P (s.begin t) w':=by
 obtain ⟨hp0,hp1,hal⟩:=k.callAt ht hb
 obtain ⟨pvs,pl,prow,pcode⟩:=h.prog
 obtain ⟨pg,pc,hvp,pgl,_⟩:=Hn prow (by omega)
 obtain ⟨tg,tc,hvt,_,tgl,hT⟩:=h.row
 obtain ⟨cvs,cl,crow,cargs⟩:=h.call t ht
 obtain ⟨cg,cc,hvc,cgl,_⟩:=Hn crow (by omega)
 have hgo:P.gv t=.nilIface:=by
  have:=h.go t ht
  have e:s.goer t=none:=by unfold Zr.goer;rw [hc]
  rw [e] at this
  exact this
 have X:=h.hx
 have K:=h.thd t ht
 unfold J0 at X
 unfold Qe at K
 rw [hvp,hvt] at X
 rw [hvc,hgo] at K
 rw [hvp] at prow
 rw [hvc] at crow
 have hpn:(s.call t).1.toNat < s.progs.length:=by omega
 obtain ⟨pa0,pa1⟩:=progV_at (l:=s.progs) pl hpn
 obtain ⟨ca0,ca1⟩:=callV_at (l:=(s.th t).calls) cl hb
 have P0:=Gm prow (by omega) pa0
 have P1:=Gm prow (by omega) pa1
 have C0:=Gm crow (by omega) ca0
 have C1:=Gm crow (by omega) ca1
 have hcode:=pcode _ hpn
 have hargs:=cargs _ hb
 obtain ⟨ca,ccap,ecode⟩:=Zo hcode.row
 obtain ⟨aa,ac,eargs⟩:=Zo hargs.row
 rw [ecode] at P1 hcode
 rw [eargs] at C1 hargs
 obtain ⟨f,ro,R⟩:=h.rnd
 have hpl:=k.prog _ (Kd (d:=(0,[])) hpn)
 have hnl:=(k.begun t ht).2
 have ht1:(t:Int) < s.c1:=by rw [k.nt];omega
 have hdl:(s.txs.map (·.raw)).length=s.txs.length:=by simp
 have hvd:=h.deeds.row.row
 rw [hdl] at hvd
 have hown:∀ g,P.vd.ownBlock=some g→lab g=5:=h.deeds.row.own
 have hdx:P.vd.ownBlock≠some P.x:=fun e=>by have:=hown _ e;rw [h.lx] at this;omega
 have hdk:P.vd.ownBlock≠some (P.kt t):=fun e=>by have:=hown _ e;rw [h.lt t ht] at this;omega
 refine (begin_t (by omega) (by simpa using ht) hb hp0 hpn X (by rw [Int.toNat_natCast];exact hT t ht) tgl K C0 C1 cgl R P0 P1 pgl k.cf ht1 h.mem hcode.row hpl hargs.row hal hvd hnd hnl hdx hdk (g:=s.newG t) rfl).mono ?_
 rintro e w' ⟨rfl,v,vd',HG,HK,HX,HR,HO,HM⟩
 refine ⟨rfl,?_⟩
 obtain ⟨lab',hlab⟩:∃ lab':Nat→Nat,lab'=fun n=>if n < w.heap.size then lab n else if vd'.ownBlock=some n then 5 else 30+t:=⟨_,rfl⟩
 have ha:Uk w lab lab':=fun n hn=>by rw [hlab];exact if_pos hn
 have hnew:∀ n,w.heap.size≤n→vd'.ownBlock≠some n→lab' n=30+t:=fun n hn hv=>by rw [hlab];simp only;rw [if_neg (by omega),if_neg hv]
 have hvown:∀ g,vd'.ownBlock=some g→lab' g=5:=fun g hg=>by
  rw [hlab]
  simp only
  split
  ·rename_i hl
   rcases HO g hg with e|e
   ·exact hown g e
   ·omega
  ·first|rfl|rw [if_pos hg]
 have hs:J4 (P.kt t :: P.x :: P.vd.ownBlock.toList) w lab [10+t,1,5]:=by
  intro n hn _
  simp only [List.mem_cons,Option.mem_toList] at hn
  rcases hn with rfl|rfl|hn
  ·rw [h.lt t ht];simp
  ·rw [h.lx];simp
  ·rw [hown n hn];simp
 have KK:=h.keep HM hs (by intro q;simp at q;omega) (by intro q;simp at q;omega) (by intro q;simp at q;omega) ha
 have hty:∀ n,vd'.ownBlock=some n→Xv w' n=some 50:=fun n hn=>Yc HR hn
 obtain ⟨P',hP⟩:∃ P':EP,P'={P with vd:=vd',gv:=fun u=>if u=t then v else P.gv u,ai:=fun u=>if u=t then (s.txs.length:Int) else P.ai u,es:=P.es++[{X1 with fr:=ro}]}:=⟨_,rfl⟩
 have hth:∀ u,(s.begin t).th u=if u=t then {s.th t with cur:=some s.txs.length,begun:=(s.th t).begun+1} else s.th u:=fun u=>Bh _ _ _ _ ht
 have hl:(s.begin t).ths.length=s.ths.length:=by simp [Zr.begin]
 have hx:(s.begin t).txs=s.txs++[⟨Xj t (s.th t).begun (s.call t).1 s.steps,some (s.newG t)⟩]:=rfl
 refine ⟨lab',P',?_,⟨by rw [hP],by rw [hP],by rw [hP],by rw [hP],by rw [hP]⟩,Kh.of HM hs (by intro q;simp at q;omega) ha⟩
 subst hP
 refine {hx:=?_,mem:=KK.mem (by intro q;simp at q;omega),rnd:=KK.rnd (by intro q;simp at q;omega),prog:=KK.prog,trow:=?_,thd:=?_,lt:=?_,call:=?_,cur:=?_,go:=?_,deeds:=?_,n1:=by rw [hl];exact h.n1,n8:=by rw [hl];exact h.n8,nt:=h.nt.trans (by rw [hl]),lx:=KK.lx,la:=KK.la,lb:=KK.lb,lr:=KK.lr,old:=KK.old,fr:=KK.fr}
 ·rw [HX]
  unfold J0
  simp only
  rw [hvp,hvt]
  rfl
 ·rw [hl];exact KK.trow
 ·intro u hu
  rw [hl] at hu
  rw [hth]
  by_cases e:u=t
  ·subst e
   simp only [if_true]
   rw [HK]
   unfold Qe
   rw [hvc]
   rfl
  ·simp only [if_neg e]
   exact KK.thd u hu (by intro q;simp at q;omega)
 ·intro u hu
  rw [hl] at hu
  exact KK.lt u hu
 ·intro u hu
  rw [hl] at hu
  rw [hth]
  have:=KK.call u hu
  by_cases e:u=t
  ·subst e;rw [if_pos rfl];exact this
  ·rw [if_neg e];exact this
 ·intro u i hu hi
  rw [hl] at hu
  rw [hth] at hi
  show (if u=t then (s.txs.length:Int) else P.ai u)=i
  by_cases e:u=t
  ·subst e
   rw [if_pos rfl] at hi ⊢
   simp at hi
   rw [hi]
  ·rw [if_neg e] at hi ⊢
   exact h.cur u i hu hi
 ·intro u hu
  rw [hl] at hu
  show Px w' lab' (30+u) (if u=t then v else P.gv u) ((s.begin t).goer u)
  by_cases e:u=t
  ·subst e
   have e2:(s.begin u).goer u=some (s.newG u):=by
    unfold Zr.goer
    rw [hth,if_pos rfl,hx]
    simp
   rw [e2,if_pos rfl]
   cases hg:s.newG u with
   |wr x=>
    rw [hg] at HG
    obtain ⟨q,q1,q2,q3,q4⟩:=HG
    have hx1:x.part=1:=by
     unfold Zr.newG at hg
     split at hg
     ·rw [←Qt.wr.inj hg];rfl
     ·cases hg
    refine ⟨q,q1,q2,fun _=>by rw [q3,hx1],fun n hn=>hnew n (q4 n hn) (fun hv=>?_)⟩
    have:=q2.tyB hn
    rw [hty n hv] at this
    exact absurd this (by decide)
   |rd x=>
    rw [hg] at HG
    obtain ⟨q,q1,q2,q4⟩:=HG
    refine ⟨q,q1,q2,fun n hn=>hnew n (q4 n hn) (fun hv=>?_)⟩
    have:=q2.tyB hn
    rw [hty n hv] at this
    exact absurd this (by decide)
  ·rw [if_neg e]
   have e2:(s.begin t).goer u=s.goer u:=Mf k hu _ _ (by
    have:=hth u
    rw [if_neg e] at this
    exact congrArg Gc.cur this)
   rw [e2]
   exact KK.go u hu (by intro q;have:=h.n8;simp at q;omega)
 ·rw [hx,List.map_append,List.map_singleton]
  have hle:=h.deeds.len
  refine ⟨by simp [hle],⟨?_,hvown⟩,?_⟩
  ·rw [G9 _ _ _ _ hle]
   have:(List.map (fun x=>x.raw) s.txs++[Xj t (s.th t).begun (s.call t).1 s.steps]).length=s.txs.length+1:=by simp
   rw [this]
   exact HR
  ·intro n hn
   have hn':n < s.txs.length∨n=s.txs.length:=by simp at hn;omega
   rcases hn' with hn'|rfl
   ·rw [Q3 (by simpa using hn'),Q3 (by rw [hle];simpa using hn')]
    exact (h.deeds.rows n (by simpa using hn')).carry HM hs (by intro q;simp at q;omega) ha
   ·have e1:(List.map (fun x=>x.raw) s.txs++[Xj t (s.th t).begun (s.call t).1 s.steps]).getD s.txs.length Xt=Xj t (s.th t).begun (s.call t).1 s.steps:=by
     simp
    have e2:(P.es++[{X1 with fr:=ro}]).getD s.txs.length X1={X1 with fr:=ro}:=by
     have:=Uj (l:=P.es) (x:={X1 with fr:=ro}) (d:=X1)
     rw [hle,hdl] at this
     exact this
    rw [e1,e2]
    exact Lk.nil _ rfl rfl rfl rfl rfl rfl rfl rfl
end
end Go.Proofs.YtkhonmhnchdpkaaGreat
