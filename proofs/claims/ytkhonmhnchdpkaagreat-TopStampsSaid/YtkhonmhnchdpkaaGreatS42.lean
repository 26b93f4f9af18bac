/- A part of the proof; no condition. -/
import Derived.Test.YtkhonmhnchdpkaaGreatS41
set_option maxRecDepth 100000
set_option maxHeartbeats 40000000
namespace Go.Proofs.YtkhonmhnchdpkaaGreat
open Go.RowKit _root_.Go.Proofs.Tryz
section
def Jq (l:List Z2):Nat:=l.countP (fun d=>decide (0 < d.number))
def Vh (b:Int) (d:Z2):Bool:=decide (0 < d.number∧0 < d.ended∧d.ended < b)
def Q5 (l:List Z2) (i:Nat):Z2:=l.getD i Xt
structure DLaw (l:List Z2) (i:Nat):Prop where
 num:0≤(Q5 l i).number∧(Q5 l i).number≤Jq l
 mark:(Q5 l i).mark≤l.length∧-1≤(Q5 l i).mark
 order:∀ j,j < l.length→0 < (Q5 l i).number→0 < (Q5 l j).number→(Q5 l i).number≠(Q5 l j).number→((Q5 l i).number < (Q5 l j).number↔(Q5 l i).mark < (Q5 l j).mark)
 same:∀ j,j < l.length→0 < (Q5 l i).number→(Q5 l i).number=(Q5 l j).number→i=j
 ends:∀ j,j < l.length→(Q5 l i).tag=2→(Q5 l j).tag=2→0≤(Q5 l i).mark→(Q5 l i).mark < (Q5 l j).mark→0 < (Q5 l j).ended→0 < (Q5 l i).ended∧(Q5 l i).ended≤(Q5 l j).ended
 rd:(Q5 l i).tag≠2→0≤(Q5 l i).mark→(Q5 l i).mark≤Jq l∧(l.countP (Vh (Q5 l i).bgn):Int)≤(Q5 l i).mark
theorem Qh.dlaw {s:Zr} (h:Qh s) (k:Ys s):∀ i,i < s.view.length→DLaw s.view i:=by
 intro i hi
 have hl:s.view.length=s.txs.length:=by unfold Zr.view;simp
 have D:∀ j,j < s.txs.length→∃ x:Wg,s.txs[j]? =some x∧Q5 s.view j=x.deed∧(s.txs.map Y1)[j]? =some (Y1 x)∧x.deed.mark=(Y1 x).mark∧x.deed.number=(Y1 x).number∧x.deed.ended=(Y1 x).ended∧x.deed.bgn=(Y1 x).bgn∧((x.deed.tag==2)=(Y1 x).wr):=by
  intro j hj
  refine ⟨s.txs[j],List.getElem?_eq_getElem hj,?_,by rw [List.getElem?_map,List.getElem?_eq_getElem hj];rfl,h.deed k (List.getElem?_eq_getElem hj)⟩
  unfold Q5 Zr.view
  rw [List.getD_eq_getElem?_getD,List.getElem?_map,List.getElem?_eq_getElem hj]
  rfl
 have E1:Jq s.view=Pr (s.txs.map Y1):=by
  unfold Jq Pr Zr.view
  rw [List.countP_map,List.countP_map]
  refine List.countP_congr (fun x hx=>?_)
  obtain ⟨j,hj,rfl⟩:=List.mem_iff_getElem.1 hx
  have:=(h.deed k (List.getElem?_eq_getElem hj)).2.1
  simp only [Function.comp,Kv,this]
 have E2:∀ b,s.view.countP (Vh b)=Lc (s.txs.map Y1) b:=by
  intro b
  unfold Lc Zr.view
  rw [List.countP_map,List.countP_map]
  refine List.countP_congr (fun x hx=>?_)
  obtain ⟨j,hj,rfl⟩:=List.mem_iff_getElem.1 hx
  have d:=h.deed k (List.getElem?_eq_getElem hj)
  simp only [Function.comp,Js,Vh,d.2.1,d.2.2.1]
 have law:=h.a.law
 rw [hl] at hi
 obtain ⟨x,hx,ex,ax,x1,x2,x3,x4,x5⟩:=D i hi
 have S:=law _ (List.mem_of_getElem? ax)
 have T:∀ y:Wg,((y.deed.tag==2)=(Y1 y).wr)→(y.deed.tag=2↔(Y1 y).wr=true):=fun y e=>by rw [←e];simp
 refine ⟨?_,?_,fun j hj=>?_,fun j hj=>?_,fun j hj=>?_,?_⟩
 ·rw [ex,x2,E1]
  exact S.num
 ·have:=S.mark
  rw [ex,x1,hl]
  simpa using this
 ·rw [hl] at hj
  obtain ⟨y,hy,ey,ay,y1,y2,y3,y4,y5⟩:=D j hj
  rw [ex,ey,x1,x2,y1,y2]
  exact (S.two i j _ ax ay).1
 ·rw [hl] at hj
  obtain ⟨y,hy,ey,ay,y1,y2,y3,y4,y5⟩:=D j hj
  rw [ex,ey,x2,y2]
  exact (S.two i j _ ax ay).2.1
 ·rw [hl] at hj
  obtain ⟨y,hy,ey,ay,y1,y2,y3,y4,y5⟩:=D j hj
  rw [ex,ey,x1,y1,x3,y3,T x x5,T y y5]
  exact (S.two i j _ ax ay).2.2
 ·rw [ex,x1,x4,E1,E2]
  intro ht hm
  refine S.rd ?_ hm
  cases hw:(Y1 x).wr with
  |false=>rfl
  |true=>exact absurd ((T x x5).2 hw) ht
end
section
variable {w w0 w':World}
theorem V6.sinv {e0 s:Zr} {ts:List Nat} (h:V6 e0 ts s) (k:Ys e0) (hs:Qh e0) (hl:e0.Len) (ht:∀ t∈ts,t < e0.ths.length) (hn:e0.steps+ts.length < 1000000000):Qh s∧s.Len:=by
 induction h with
 |nil s=>exact ⟨hs,hl⟩
 |@cons s r t l v h ih=>
  have q:=k.step (ht t (by simp)) v
  have e:=(Hk s t v).1
  simp only [List.length_cons] at hn
  exact ih q.1 (hs.step k (ht t (by simp)) (by omega) v) (hl.step k (ht t (by simp)) v) (fun u hu=>by rw [q.2];exact ht u (by simp [hu])) (by omega)
structure Qd (w0:World) (x:Nat) (e0:Zr) (ts:List Nat) (s:Zr) (w:World):Prop where
 run:V6 e0 ts s
 at':∃ lab P,P.x=x∧Yv w0 w lab P s
 ok:Ys e0
 si:Qh e0
 ln:e0.Len
 lt:∀ t∈ts,t < e0.ths.length
 z:e0.steps=0
variable {x:Nat} {e0 s:Zr} {ts:List Nat} {l:List Int} {v:Value}
theorem Qd.mod (h:Qd w0 x e0 ts s w) (m:Ze [] w w'):Qd w0 x e0 ts s w':=by
 obtain ⟨h1,⟨lab,P,e,h2⟩,h3,h4,h5,h6,h7⟩:=h
 exact ⟨h1,⟨lab,P,e,h2.quiet m Zz⟩,h3,h4,h5,h6,h7⟩
theorem Qd.okS (h:Qd w0 x e0 ts s w):Ys s∧s.ths.length=e0.ths.length:=h.run.ok h.ok h.lt
theorem Qd.siS (h:Qd w0 x e0 ts s w) (hn:ts.length < 1000000000):Qh s∧s.Len:=h.run.sinv h.ok h.si h.ln h.lt (by rw [h.z];omega)
theorem Qd.fr (h:Qd w0 x e0 ts s w):Ze [] w0 w:=by
 obtain ⟨lab,P,e,h2⟩:=h.at'
 exact h2.fr
theorem Qd.run_c (h:Qd w0 x e0 ts s w) (hv:Pw w v l) (hl:l.length≤65536) (hn:ts.length+l.length < 1000000000):
  Calls Tryz.prog 9 #[.pointer (some ⟨x,0,none⟩),v] w fun e w'=>∃ n s',e=.returned (.tuple #[.int .i64 n,.int .i64 0])∧Qd w0 x e0 (ts++Q4 e0.ths.length l) s' w':=by
 obtain ⟨k,hk⟩:=h.okS
 obtain ⟨lab,P,e,h2⟩:=id h.at'
 have hst:=h.run.steps
 have C:=_root_.Go.Proofs.YtkhonmhnchdpkaaGreat.run_c h2 k hv hl (by rw [h.z] at hst;omega)
 unfold Xr at C
 rw [e] at C
 refine C.mono ?_
 rintro e' w2 ⟨n,s',rfl,R,lab2,P2,q1,q2,q3⟩
 rw [hk] at R
 refine ⟨n,s',rfl,h.run.trans R,⟨lab2,P2,q2.x.trans e,q1⟩,h.ok,h.si,h.ln,?_,h.z⟩
 intro t ht
 rcases List.mem_append.1 ht with ht|ht
 ·exact h.lt t ht
 ·exact Mi (by rw [←hk];exact h2.n1) l t ht
theorem Qd.over_c (h:Qd w0 x e0 ts s w):Calls Tryz.prog 20 #[.pointer (some ⟨x,0,none⟩)] w fun e w'=>e=.returned (.bool s.over)∧Ze [] w w':=by
 obtain ⟨lab,P,e,h2⟩:=id h.at'
 have C:=_root_.Go.Proofs.YtkhonmhnchdpkaaGreat.over_c h2 h.okS.1.goes
 unfold Xr at C
 rw [e] at C
 exact C
theorem Qd.state_c (h:Qd w0 x e0 ts s w):Calls Tryz.prog 14 #[.pointer (some ⟨x,0,none⟩)] w (StateP w s.state):=by
 obtain ⟨lab,P,e,h2⟩:=id h.at'
 have C:=_root_.Go.Proofs.YtkhonmhnchdpkaaGreat.state_c h2 h.okS.1
 unfold Xr at C
 rw [e] at C
 exact C
theorem Qd.deeds_c (h:Qd w0 x e0 ts s w) (hn:ts.length < 1000000000):Calls Tryz.prog 10 #[.pointer (some ⟨x,0,none⟩)] w (DeedsP w s.view):=by
 obtain ⟨lab,P,e,h2⟩:=id h.at'
 obtain ⟨s1,s2⟩:=h.siS hn
 have hst:=h.run.steps
 have C:=_root_.Go.Proofs.YtkhonmhnchdpkaaGreat.deeds_c h2 h.okS.1 s2 (by have:=h.okS.1.st;rw [h.z] at hst;omega)
 unfold Xr at C
 rw [e] at C
 exact C
theorem Df {c0 c1 c2 c3:Int} {start:List Nat} {progs:List (Int×List Xf)} {cs:List (List (Int×List Nat))} (hk:Pm c0 c1 c2 c3 start.length progs.length cs) (hpl:∀ p∈progs,p.2.length≤5864062014635) (h:J3 w v c0 c1 c2 c3 start progs cs):
  Calls Tryz.prog 17 #[v] w fun e w'=>∃ x,e=.returned (.tuple #[.pointer (some ⟨x,0,none⟩),.int .i64 0])∧Qd w x (Jy c0 c1 c2 c3 start progs cs) [] (Jy c0 c1 c2 c3 start progs cs) w':=by
 obtain ⟨vs,vp,vt,rfl,hS,hP,hT⟩:=h.f
 refine (new_c hk hpl hT hP hS).mono ?_
 rintro e w' ⟨x,a,b,r,vp',vt',kts,vcs,rfl,K,m⟩
 obtain ⟨lab,P,e,H⟩:=K.eng hk.cf m
 exact ⟨x,rfl,.nil _,⟨lab,P,e,H⟩,newE_ok hk hpl,Ah hk.cf,newE_Len,fun t ht=>(by simp at ht),rfl⟩
theorem J3.mod {c0 c1 c2 c3:Int} {start:List Nat} {progs:List (Int×List Xf)} {cs:List (List (Int×List Nat))} (h:J3 w v c0 c1 c2 c3 start progs cs) (m:Ze [] w w'):J3 w' v c0 c1 c2 c3 start progs cs:=by
 obtain ⟨vs,vp,vt,e,hS,hP,hT⟩:=h.f
 exact ⟨vs,vp,vt,e,hS.mod m,hP.mod m,hT.mod m⟩
theorem Pa {g:Nat} (h:w.heap[g]? =some (.cells ((l.map (Value.int .i64)).toArray) 3 (0,0))):Pw w (.slice (some ⟨g,0,none⟩) l.length l.length) l:=by
 refine ⟨_,_,rfl,.inr ⟨g,0,rfl,lt_of_block h,fun i hi=>?_⟩⟩
 rw [Nat.zero_add]
 refine Za h ?_
 simp [hi]
theorem Cy:Pm 2 3 30 2 ([]:List Nat).length Fh.length Rb:=Pz (by decide+kernel)
theorem live_len:∀ p∈Fh,p.2.length≤5864062014635:=by
 intro p hp
 simp only [Fh,List.mem_cons,List.not_mem_nil,or_false] at hp
 rcases hp with rfl|rfl <;> decide
theorem Uu.cell {n0:Nat} {ds:List Z2} {es:List DX} {g c cap k:Nat} {u:Value} (h:Uu w n0 ds es (.slice (some ⟨g,0,none⟩) ds.length cap)) (hk:k < ds.length) (hc:c < 19) (hu:(Z3 (ds.getD k Xt) (es.getD k X1))[c]? =some u):w.cell? ⟨g,k * 19+c,none⟩=some u:=by
 have hb:k * 19+c < ds.length * 19:=by have:(k+1) * 19≤ds.length * 19:=Nat.mul_le_mul_right _ hk;omega
 have:=h.row.cellAt (k * 19+c) hb
 rw [G8 h.len hk hc,hu] at this
 exact this
theorem Uu.form {n0:Nat} {ds:List Z2} {es:List DX} (h:Uu w n0 ds es v) (hd:0 < ds.length):∃ g cap,v=.slice (some ⟨g,0,none⟩) ds.length cap∧g < w.heap.size:=by
 obtain ⟨g,cap,e,_⟩:=Yd h.row hd
 exact ⟨g,cap,e,Yr h.row (by rw [e];rfl)⟩
end
section
variable {w w0 w':World} {v:Value} {c0 c1 c2 c3:Int} {start:List Nat} {progs:List (Int×List Xf)} {cs:List (List (Int×List Nat))}
theorem Az (hk:Pm c0 c1 c2 c3 start.length progs.length cs) (hpl:∀ p∈progs,p.2.length≤5864062014635) (h:J3 w v c0 c1 c2 c3 start progs cs):
  Calls Tryz.prog 8 #[v] w fun e w'=>∃ x w0,e=.returned (.tuple #[.pointer (some ⟨x,0,none⟩),.bool true])∧Ze [] w w'∧Ze [] w w0∧Qd w0 x (Jy c0 c1 c2 c3 start progs cs) [] (Jy c0 c1 c2 c3 start progs cs) w':=by
 have hz:Yq c0 c1 c2 c3 start.length progs.length cs=0:=by
  refine Ja hk.cf hk.s hk.p hk.t hk.l (fun i j hi hj=>?_)
  have:=hk.c i j hi hj
  unfold Y5
  simp only [Bool.or_eq_false_iff,decide_eq_false_iff_not]
  omega
 have HN:=Zh_ (fun (wx:World) (m:Ze [] w wx)=>Df hk hpl (h.mod m))
 obtain ⟨vs,vp,vt,rfl,hS,hP,hT⟩:=h.f
 obtain ⟨ap,cp,hvp,_⟩:=hP
 obtain ⟨sa,ca,hvs,_⟩:=hS
 have hW:=fun (wx:World) (m:Ze [] w wx)=>P3 (c0:=c0) (c1:=c1) (c2:=c2) (c3:=c3) (sa:=sa) (ns:=start.length) (cs':=ca) (ap:=ap) (np:=progs.length) (cp:=cp) (hT.mod m).rd
 rw [hz] at hW
 obtain ⟨at',ct,hvt,_⟩:=hT
 subst hvp hvs hvt
 have HW:=Zh_ hW
 clear hW hz h hk hpl
 go_enter func8,ntmps8
 go_wp2_with fail
 refine Calls.mono (HN.out _ ((Zr_ _ _).alloc _)) ?_;rintro e w1 ⟨x,rfl,G⟩
 have M1:=Zh_ (((Zr_ _ w).alloc (.cells #[.int .i64 c0,.int .i64 c1,.int .i64 c2,.int .i64 c3,.slice sa start.length ca,.slice ap progs.length cp,.slice at' cs.length ct] 28)).trans G.fr)
 have B1:=G.fr.at (Zc w _) (by simp)
 have HG:=Zh_ G
 have b0:=Za (i:=0) B1 rfl
 have b1:=Za (i:=1) B1 rfl
 have b2:=Za (i:=2) B1 rfl
 have b3:=Za (i:=3) B1 rfl
 have b4:=Za (i:=4) B1 rfl
 have b5:=Za (i:=5) B1 rfl
 have b6:=Za (i:=6) B1 rfl
 clear G B1
 go_wp2_with fail
 refine Calls.mono (HW.out _ M1.out) ?_;rintro e w2 ⟨rfl,m2⟩
 have M2:=Zh_ (M1.out.trans m2)
 have HG2:=Zh_ (HG.out.mod m2)
 clear b0 b1 b2 b3 b4 b5 b6 m2
 go_wp2
 go_ret2
 exact ⟨x,_,rfl,M2.out,(Zr_ _ _).alloc _,HG2.out⟩
theorem Le (hr:Yq c0 c1 c2 c3 start.length progs.length cs≠0) (h:J3 w v c0 c1 c2 c3 start progs cs):
  Calls Tryz.prog 8 #[v] w fun e w'=>e=.returned (.tuple #[.pointer none,.bool true])∧Ze [] w w':=by
 obtain ⟨vs,vp,vt,rfl,hS,hP,hT⟩:=h.f
 obtain ⟨ap,cp,hvp,_⟩:=hP
 obtain ⟨sa,ca,hvs,_⟩:=hS
 have hW:=fun (wx:World) (m:Ze [] w wx)=>P3 (c0:=c0) (c1:=c1) (c2:=c2) (c3:=c3) (sa:=sa) (ns:=start.length) (cs':=ca) (ap:=ap) (np:=progs.length) (cp:=cp) (hT.mod m).rd
 obtain ⟨at',ct,hvt,_⟩:=id hT
 subst hvp hvs hvt
 have hN:=fun (wx:World) (m:Ze [] w wx)=>Ag (c0:=c0) (c1:=c1) (c2:=c2) (c3:=c3) (a1:=sa) (n1:=start.length) (k1:=ca) (a2:=ap) (n2:=progs.length) (k2:=cp) hr (hT.mod m)
 obtain ⟨rv,hrv⟩:∃ n,n=Yq c0 c1 c2 c3 start.length progs.length cs:=⟨_,rfl⟩
 have hr2:rv=1∨rv=160:=by
  have:=Ge c0 c1 c2 c3 start.length progs.length cs
  omega
 rw [←hrv] at hW hN
 have HW:=Zh_ hW
 have HN:=Zh_ hN
 clear hW hN h hr hrv hT
 rcases hr2 with rfl|rfl
 ·go_enter func8,ntmps8
  go_wp2_with fail
  refine Calls.mono (HN.out _ ((Zr_ _ _).alloc _)) ?_;rintro e w1 ⟨rfl,m1⟩
  have M1:=Zh_ (((Zr_ _ w).alloc (.cells #[.int .i64 c0,.int .i64 c1,.int .i64 c2,.int .i64 c3,.slice sa start.length ca,.slice ap progs.length cp,.slice at' cs.length ct] 28)).trans m1)
  have B1:=m1.at (Zc w _) (by simp)
  have b0:=Za (i:=0) B1 rfl
  have b1:=Za (i:=1) B1 rfl
  have b2:=Za (i:=2) B1 rfl
  have b3:=Za (i:=3) B1 rfl
  have b4:=Za (i:=4) B1 rfl
  have b5:=Za (i:=5) B1 rfl
  have b6:=Za (i:=6) B1 rfl
  clear m1 B1
  go_wp2_with fail
  refine Calls.mono (HW.out _ M1.out) ?_;rintro e w2 ⟨rfl,m2⟩
  have M2:=Zh_ (M1.out.trans m2)
  clear b0 b1 b2 b3 b4 b5 b6 m2
  go_wp2
  go_ret2
  exact ⟨rfl,M2.out⟩
 ·go_enter func8,ntmps8
  go_wp2_with fail
  refine Calls.mono (HN.out _ ((Zr_ _ _).alloc _)) ?_;rintro e w1 ⟨rfl,m1⟩
  have M1:=Zh_ (((Zr_ _ w).alloc (.cells #[.int .i64 c0,.int .i64 c1,.int .i64 c2,.int .i64 c3,.slice sa start.length ca,.slice ap progs.length cp,.slice at' cs.length ct] 28)).trans m1)
  have B1:=m1.at (Zc w _) (by simp)
  have b0:=Za (i:=0) B1 rfl
  have b1:=Za (i:=1) B1 rfl
  have b2:=Za (i:=2) B1 rfl
  have b3:=Za (i:=3) B1 rfl
  have b4:=Za (i:=4) B1 rfl
  have b5:=Za (i:=5) B1 rfl
  have b6:=Za (i:=6) B1 rfl
  clear m1 B1
  go_wp2_with fail
  refine Calls.mono (HW.out _ M1.out) ?_;rintro e w2 ⟨rfl,m2⟩
  have M2:=Zh_ (M1.out.trans m2)
  clear b0 b1 b2 b3 b4 b5 b6 m2
  go_wp2
  go_ret2
  exact ⟨rfl,M2.out⟩
end
section
variable {w w0 w':World} {v:Value}
theorem Nx (k:Nat) (l:List Nat):Po (k+1) l=Po k l++l:=by
 unfold Po
 rw [List.replicate_succ',List.flatten_append]
 simp
theorem Cz {s:Zr} (h:Rc s=true):s.over=true∧s.state=[4619567317775286272,4619567317775286272]∧s.view.length=3∧(s.view.getD 0 Xt).out=[0,0]∧(s.view.getD 0 Xt).mark=0∧(s.view.getD 1 Xt).number=1∧(s.view.getD 2 Xt).number=2:=by
 unfold Rc at h
 simp only [Bool.and_eq_true,beq_iff_eq] at h
 obtain ⟨⟨⟨⟨⟨⟨h1,h2⟩,h3⟩,h4⟩,h5⟩,h6⟩,h7⟩:=h
 exact ⟨h1,h2,h3,h4,h5,h6,h7⟩
theorem live_c:Calls Tryz.prog 7 #[] w fun e w'=>e=.returned (.bool true)∧Ze [] w w':=by
 go_enter func7,ntmps7
 go_wp2_with fail
 refine pair_c.mono ?_;rintro e w1 ⟨v,rfl,S,m1⟩
 have HM1:=Zh_ m1
 go_wp2_with fail
 refine (Df Cy live_len S).mono ?_;rintro e w2 ⟨x,rfl,G⟩
 have HG:=Zh_ (show Qd w1 x Jr [] Jr w2 from G)
 clear G m1 S
 go_wp2_with fail
 have A1:=Zc w2 (.cells #[.int .i64 1,.int .i64 1,.int .i64 1,.int .i64 1,.int .i64 1,.int .i64 1] 3)
 have I1:=Pa (l:=[1,1,1,1,1,1]) A1
 refine ((HG.out.mod ((Zr_ _ _).alloc _)).run_c I1 (by decide) (by decide)).mono ?_;rintro e w3 ⟨n3,s3,rfl,G3⟩
 have HG3:=Zh_ (show Qd w1 x Jr ([1,1,1,1,1,1]++Po 0 [0,2,0]) s3 w3 from G3)
 clear A1 I1 G3 HG
 go_wp2_with fail
 go_loopw [3] (fun i wx=>∃ k:Nat,k≤60∧i=.int .i64 k∧∃ s,Qd w1 x Jr ([1,1,1,1,1,1]++Po k [0,2,0]) s wx) (fun i _=>60 - (intOf i).toNat)
 case atStart=>exact ⟨0,by omega,rfl,s3,HG3.out⟩
 case round=>
  obtain ⟨k,hk,rfl,s,G⟩:=hrel
  have HG:=Zh_ G
  clear G HG3
  by_cases hlt:k < 60
  ·have d4:decide ((k:Int) < 60)=true:=decide_eq_true (by omega)
   go_wp2_with fail
   have A1:=Zc wr (.cells #[.int .i64 0,.int .i64 2,.int .i64 0] 3)
   have I1:=Pa (l:=[0,2,0]) A1
   refine ((HG.out.mod ((Zr_ _ _).alloc _)).run_c I1 (by decide) (by
    have:(Po k [0,2,0]).length=3 * k:=by unfold Po;simp;omega
    simp [this];omega)).mono ?_;rintro e w4 ⟨n4,s4,rfl,G4⟩
   have HG4:=Zh_ (show Qd w1 x Jr ([1,1,1,1,1,1]++Po (k+1) [0,2,0]) s4 w4 by
    rw [Nx k,←List.append_assoc]
    exact G4)
   clear A1 I1 G4 HG
   go_wp2
   go_roundw
   case rel=>exact ⟨k+1,by omega,by go_num,s4,HG4.out⟩
   case measure=>simp [intOf];omega
  ·have d4:decide ((k:Int) < 60)=false:=decide_eq_false (by omega)
   obtain rfl:k=60:=by omega
   have HG0:=Zh_ (show Qd w1 x Jr (([1,1,1,1,1,1]++Po 60 [0,2,0])++Po 0 [1,2]) s wr by
    have e:Po 0 [1,2]=[]:=rfl
    rw [e,List.append_nil]
    exact HG.out)
   rw [show ((60:Nat):Int)=60 from rfl] at d4 ⊢
   clear HG hlt
   generalize wr=w5 at *
   go_wp2_with fail
   clear d4
   go_loopw [4] (fun i wx=>∃ k:Nat,k≤60∧i=.int .i64 k∧∃ s,Qd w1 x Jr (([1,1,1,1,1,1]++Po 60 [0,2,0])++Po k [1,2]) s wx) (fun i _=>60 - (intOf i).toNat)
   case atStart=>exact ⟨0,by omega,rfl,s,HG0.out⟩
   case round=>
    obtain ⟨k,hk,rfl,s,G⟩:=hrel
    have HG:=Zh_ G
    clear G HG0
    by_cases hlt:k < 60
    ·have d4:decide ((k:Int) < 60)=true:=decide_eq_true (by omega)
     go_wp2_with fail
     have A1:=Zc wr (.cells #[.int .i64 1,.int .i64 2] 3)
     have I1:=Pa (l:=[1,2]) A1
     refine ((HG.out.mod ((Zr_ _ _).alloc _)).run_c I1 (by decide) (by
      have e1:(Po 60 [0,2,0]).length=180:=by decide+kernel
      have:(Po k [1,2]).length=2 * k:=by unfold Po;simp;omega
      simp [this,e1];omega)).mono ?_;rintro e w4 ⟨n4,s4,rfl,G4⟩
     have HG4:=Zh_ (show Qd w1 x Jr (([1,1,1,1,1,1]++Po 60 [0,2,0])++Po (k+1) [1,2]) s4 w4 by
      rw [Nx k,←List.append_assoc]
      exact G4)
     clear A1 I1 G4 HG
     go_wp2
     go_roundw
     case rel=>exact ⟨k+1,by omega,by go_num,s4,HG4.out⟩
     case measure=>simp [intOf];omega
    ·have d4:decide ((k:Int) < 60)=false:=decide_eq_false (by omega)
     obtain rfl:k=60:=by omega
     have hL:=Cz (An (show V6 Jr liveL s from HG.out.run))
     obtain ⟨f1,f2,f3,f4,f5,f6,f7⟩:=hL
     have F1:=Zh_ f1
     have F2:=Zh_ f2
     have F3:=Zh_ f3
     have F4:=Zh_ f4
     have F5:=Zh_ f5
     have F6:=Zh_ f6
     have F7:=Zh_ f7
     clear f1 f2 f3 f4 f5 f6 f7 hlt d4
     go_wp2_with fail
     have hlen:(([1,1,1,1,1,1]++Po 60 [0,2,0])++Po 60 [1,2]).length < 1000000000:=by decide+kernel
     refine (HG.out.deeds_c hlen).mono ?_;rintro e w6 ⟨u,es,rfl,O,m6⟩
     obtain ⟨g,cap,hu,hgl⟩:=O.form (by rw [F3.out];omega)
     subst hu
     have O':=O
     have c9:=O'.cell (k:=0) (c:=9) (by rw [F3.out];omega) (by omega) rfl
     have c5:=O'.cell (k:=0) (c:=5) (by rw [F3.out];omega) (by omega) rfl
     have c25:=O'.cell (k:=1) (c:=6) (by rw [F3.out];omega) (by omega) rfl
     have c44:=O'.cell (k:=2) (c:=6) (by rw [F3.out];omega) (by omega) rfl
     have ro:=(O.rows 0 (by rw [F3.out];omega)).2.2.2
     rw [F4.out] at ro
     rw [F5.out] at c5
     rw [F6.out] at c25
     rw [F7.out] at c44
     rw [F3.out]
     obtain ⟨va,hva⟩:∃ z,z=(es.getD 0 X1).vo:=⟨_,rfl⟩
     rw [←hva] at c9 ro
     have HC:=Zh_ (show ∀ wx,Ze [] w6 wx→wx.cell? ⟨g,9,none⟩=some va∧wx.cell? ⟨g,5,none⟩=some (.int .i64 0)∧wx.cell? ⟨g,25,none⟩=some (.int .i64 1)∧wx.cell? ⟨g,44,none⟩=some (.int .i64 2) from fun wx m=>⟨Zx m hgl (by simp) c9,Zx m hgl (by simp) c5,Zx m hgl (by simp) c25,Zx m hgl (by simp) c44⟩)
     have HRO:=Zh_ ro
     have HG6:=Zh_ (HG.out.mod m6)
     clear HG O O' c9 c5 c25 c44 ro m6 hva
     go_wp2_with fail
     refine HG6.out.over_c.mono ?_;rintro e w7 ⟨rfl,m7⟩
     rw [F1.out]
     have HG7:=Zh_ (HG6.out.mod m7)
     have M7:=Zh_ m7
     clear m7
     go_wp2_with fail
     refine HG7.out.state_c.mono ?_;rintro e w8 ⟨vs,rfl,S8,m8⟩
     rw [F2.out] at S8
     have HS8:=Zh_ S8
     have M8:=Zh_ (M7.out.trans m8)
     have HG8:=Zh_ (HG7.out.mod m8)
     clear S8 m8
     go_wp2_with fail
     have ow:(w8.alloc (.cells #[.float .f64 4619567317775286272,.float .f64 4619567317775286272] 51)).ownsRow 0 51 1 (.slice (some ⟨w8.heap.size,0,none⟩) 2 2) 2 ([4619567317775286272,4619567317775286272].map (Value.float .f64)):=Hu (n:=2) (Zc _ _) rfl (by decide) (Nat.zero_le _)
     refine (Rf (l:=[4619567317775286272,4619567317775286272]) (Ye HS8.out.1 ((Zr_ _ _).alloc _)) ow (by decide)).mono ?_;rintro e w9 ⟨rfl,m9⟩
     have M9:=Zh_ (M8.out.trans (((Zr_ _ _).alloc _).trans m9))
     have HG9:=Zh_ (HG8.out.mod (((Zr_ _ _).alloc _).trans m9))
     clear ow m9
     obtain ⟨d9,d5,d25,d44⟩:=HC.out w9 M9.out
     have HRV:=Zh_ (Ye HRO.out.1 M9.out)
     go_wp2_with fail
     have ow:(w9.alloc (.cells #[.float .f64 0,.float .f64 0] 51)).ownsRow 0 51 1 (.slice (some ⟨w9.heap.size,0,none⟩) 2 2) 2 (([0,0]:List Nat).map (Value.float .f64)):=Hu (n:=2) (Zc _ _) rfl (by decide) (Nat.zero_le _)
     refine (Rf (l:=[0,0]) (Ye HRV.out ((Zr_ _ _).alloc _)) ow (by decide)).mono ?_;rintro e w10 ⟨rfl,m10⟩
     have M10:=Zh_ (M9.out.trans (((Zr_ _ _).alloc _).trans m10))
     have HG10:=Zh_ (HG9.out.mod (((Zr_ _ _).alloc _).trans m10))
     clear ow m10 d9 d5 d25 d44
     obtain ⟨d9,d5,d25,d44⟩:=HC.out w10 M10.out
     go_wp2
     go_ret
     exact ⟨rfl,HM1.out.trans HG10.out.fr⟩
end
section
variable {w w0 w':World} {v:Value} {c0 c1 c2 c3:Int} {start:List Nat} {progs:List (Int×List Xf)} {cs:List (List (Int×List Nat))}
theorem Uu.fetch {n0:Nat} {ds:List Z2} {es:List DX} {av:Option Addr} {cap k:Nat} (h:Uu w n0 ds es (.slice av ds.length cap)) (hk:k < ds.length):
  (∃ g,av=some ⟨g,0,none⟩∧g < w.heap.size∧∀ (j:Nat) (v:Value),(Z3 (Q5 ds k) (es.getD k X1))[j]? =some v→w.cell? ((⟨g,k * 19,none⟩:Addr).add j)=some v)∧∀ u∈Z3 (Q5 ds k) (es.getD k X1),u.oneCell'=true:=by
 obtain ⟨g,c,e,hg⟩:=h.form (by omega)
 simp only [Value.slice.injEq,true_and] at e
 obtain ⟨rfl,rfl⟩:=e
 refine ⟨⟨g,rfl,hg,fun j v hv=>?_⟩,?_⟩
 ·rw [Bd]
  have hj:j < 19:=by
   have:j < (Z3 (Q5 ds k) (es.getD k X1)).length:=by
    rcases Nat.lt_or_ge j (Z3 (Q5 ds k) (es.getD k X1)).length with h'|h'
    ·exact h'
    ·rw [List.getElem?_eq_none h'] at hv;cases hv
   exact this
  exact h.cell hk hj hv
 ·have r:=h.rows k hk
  have:=Vi (Q5 ds k) (es.getD k X1) (Yn r.1.1) (Yn r.2.1.1) (Yn r.2.2.1.1) (Yn r.2.2.2.1)
  exact this
theorem Cx (ds:List Z2) (z:Nat) (hz:z < ds.length):Jq (ds.take (z+1))=Jq (ds.take z)+if 0 < (Q5 ds z).number then 1 else 0:=by
 unfold Jq
 rw [J6 ds z Xt hz,List.countP_append]
 unfold Q5
 simp [List.countP_cons]
theorem C8 (ds:List Z2) (b:Int) (z:Nat) (hz:z < ds.length):(ds.take (z+1)).countP (Vh b)=(ds.take z).countP (Vh b)+if Vh b (Q5 ds z)=true then 1 else 0:=by
 rw [J6 ds z Xt hz,List.countP_append]
 unfold Q5
 simp [List.countP_cons]
theorem manyD_le (ds:List Z2) (z:Nat):Jq (ds.take z)≤z:=by
 unfold Jq
 refine Nat.le_trans List.countP_le_length ?_
 rw [List.length_take];omega
theorem early_le (ds:List Z2) (b:Int) (z:Nat):(ds.take z).countP (Vh b)≤z:=by
 refine Nat.le_trans List.countP_le_length ?_
 rw [List.length_take];omega
theorem Tw {len:Nat} {sa:Option Addr} {sc:Nat} (hr:Yq c0 c1 c2 c3 start.length progs.length cs≠0) (h:J3 w v c0 c1 c2 c3 start progs cs):
  Calls Tryz.prog 5 #[v,.slice sa len sc] w fun e w'=>e=.returned (.bool true)∧Ze [] w w':=by
 have HB:=Zh_ (fun (wx:World) (m:Ze [] w wx)=>Le hr (h.mod m))
 obtain ⟨vs,vp,vt,rfl,-,-,-⟩:=h.f
 clear h hr
 go_enter func5,ntmps5
 go_wp2_with fail
 refine live_c.mono ?_;rintro e w1 ⟨rfl,m1⟩
 have M1:=Zh_ (((Zr_ _ w).alloc (.cells #[.int .i64 c0,.int .i64 c1,.int .i64 c2,.int .i64 c3,vs,vp,vt] 28)).trans m1)
 have B1:=m1.at (Zc w (.cells #[.int .i64 c0,.int .i64 c1,.int .i64 c2,.int .i64 c3,vs,vp,vt] 28)) (by simp)
 have b0:=Za (i:=0) B1 rfl
 have b1:=Za (i:=1) B1 rfl
 have b2:=Za (i:=2) B1 rfl
 have b3:=Za (i:=3) B1 rfl
 have b4:=Za (i:=4) B1 rfl
 have b5:=Za (i:=5) B1 rfl
 have b6:=Za (i:=6) B1 rfl
 clear m1 B1
 go_wp2_with fail
 refine Calls.mono (HB.out _ M1.out) ?_;rintro e w2 ⟨rfl,m2⟩
 have M2:=Zh_ (M1.out.trans m2)
 clear m2 b0 b1 b2 b3 b4 b5 b6
 go_wp2
 go_ret
 exact ⟨rfl,M2.out⟩
theorem Sn {l:List Int} {vl:Value} (hk:Pm c0 c1 c2 c3 start.length progs.length cs) (hpl:∀ p∈progs,p.2.length≤5864062014635) (h:J3 w v c0 c1 c2 c3 start progs cs) (hl:Pw w vl l):
  Calls Tryz.prog 5 #[v,vl] w fun e w'=>e=.returned (.bool true)∧Ze [] w w':=by
 have HB:=Zh_ (fun (wx:World) (m:Ze [] w wx)=>Az hk hpl (h.mod m))
 obtain ⟨vs,vp,vt,rfl,-,-,-⟩:=h.f
 have HLI:=Zh_ hl
 obtain ⟨sa,sc,rfl,-⟩:=hl
 clear h hk hpl
 go_enter func5,ntmps5
 go_wp2_with fail
 refine live_c.mono ?_;rintro e w1 ⟨rfl,m1⟩
 have M1:=Zh_ (((Zr_ _ w).alloc (.cells #[.int .i64 c0,.int .i64 c1,.int .i64 c2,.int .i64 c3,vs,vp,vt] 28)).trans m1)
 have B1:=m1.at (Zc w (.cells #[.int .i64 c0,.int .i64 c1,.int .i64 c2,.int .i64 c3,vs,vp,vt] 28)) (by simp)
 have b0:=Za (i:=0) B1 rfl
 have b1:=Za (i:=1) B1 rfl
 have b2:=Za (i:=2) B1 rfl
 have b3:=Za (i:=3) B1 rfl
 have b4:=Za (i:=4) B1 rfl
 have b5:=Za (i:=5) B1 rfl
 have b6:=Za (i:=6) B1 rfl
 clear m1 B1
 go_wp2_with fail
 refine Calls.mono (HB.out _ M1.out) ?_;rintro e w2 ⟨x,wz,rfl,m2,mz,G⟩
 have M2:=Zh_ (M1.out.trans m2)
 have HG:=Zh_ G
 have HMZ:=Zh_ (M1.out.trans mz)
 clear m2 mz G b0 b1 b2 b3 b4 b5 b6
 by_cases hlen:4000 < l.length
 ·have d1:decide ((l.length:Int) > 4000)=true:=decide_eq_true (by omega)
  go_wp2
  go_ret
  exact ⟨rfl,M2.out⟩
 have d1:decide ((l.length:Int) > 4000)=false:=decide_eq_false (by omega)
 go_wp2_with fail
 refine (HG.out.run_c (HLI.out.mod M2.out) (by omega) (by simp;omega)).mono ?_;rintro e w3 ⟨nr,s,rfl,G3⟩
 have HG3:=Zh_ G3
 have hlt3:([]++Q4 (Jy c0 c1 c2 c3 start progs cs).ths.length l).length < 1000000000:=by simp [Q4];omega
 obtain ⟨hsi,hln⟩:=HG3.out.siS hlt3
 obtain ⟨ds,hds⟩:∃ d,d=s.view:=⟨_,rfl⟩
 have hdl:=hsi.dlaw HG3.out.okS.1
 rw [←hds] at hdl
 have HLAW:=Zh_ hdl
 have hdn:ds.length≤4000:=by
  have h1:=HG3.out.run.steps
  have h2:=HG3.out.okS.1.st
  have h3:=HG3.out.z
  have h4:([]++Q4 (Jy c0 c1 c2 c3 start progs cs).ths.length l).length=l.length:=by simp [Q4]
  have h5:ds.length=s.txs.length:=by rw [hds];unfold Zr.view;simp
  rw [h3,h4] at h1
  omega
 have C10:=HG3.out.deeds_c hlt3
 rw [←hds] at C10
 have M3:=Zh_ (HMZ.out.trans HG3.out.fr)
 clear hsi hln hdl hlt3 hds
 go_wp2_with fail
 refine C10.mono ?_;rintro e w4 ⟨u,es,rfl,O,m4⟩
 have M4:=Zh_ (M3.out.trans m4)
 obtain ⟨av,cap,hu⟩:=Zo O.row
 subst hu
 obtain ⟨n,hn⟩:∃ n,n=ds.length:=⟨_,rfl⟩
 have HF:=Zh_ (fun k (hk:k < n)=>O.fetch (k:=k) (by rw [←hn];exact hk))
 rw [←hn] at hdn
 rw [←hn]
 have HN:=Zh_ hn
 clear hn O m4 C10
 go_wp2_with fail
 go_loopw [41,9] (fun i c wx=>∃ z:Nat,z≤n∧i=.int .i64 z∧c=.int .i64 (Jq (ds.take z))∧Ze [] w4 wx) (fun i _ _=>n - (intOf i).toNat)
 case atStart=>exact ⟨0,by omega,rfl,by rw [List.take_zero];rfl,Zr_ _ _⟩
 case round=>as_aux_lemma=>
  obtain ⟨z,hz,rfl,rfl,m⟩:=hrel
  have HM:=Zh_ m
  clear m
  by_cases hlt:z < n
  ·have d4:decide ((z:Int) < (n:Int))=true:=decide_eq_true (by omega)
   go_upto_region 10 with fail
   obtain ⟨⟨ag,ae,ahg,ahc⟩,aone⟩:=HF.out z (by omega)
   subst ae
   obtain ⟨d1,acs⟩:∃ cs:Array Value,cs=(Z3 (Q5 ds z) (es.getD z X1)).toArray:=⟨_,rfl⟩
   have az:d1.size=19:=by rw [acs];rfl
   have acl:∀ (i0:Nat) (v:Value),d1.toList[i0]? =some v→wr.cell? ((⟨ag,z * 19,none⟩:Addr).add i0)=some v:=by
    rw [acs]
    exact fun i0 v hv=>Zx HM.out (by rw [Qy];exact ahg) (by simp) (ahc i0 v (by simpa using hv))
   have aon:∀ u∈d1.toList,u.oneCell'=true:=by rw [acs];simpa using aone
   have aCS:=Zh_ acs
   have aZ:=Zh_ az
   have aCL:=Zh_ acl
   have aON:=Zh_ aon
   obtain ⟨q1,aq⟩:∃ r,r=wr.heap.size:=⟨_,rfl⟩
   clear ahg ahc aone acs az acl aon
   refine wp_region_lit ?_
   refine Yx (.pointer (some ⟨ag,z * 19,none⟩)) rfl (by go_simp) ?_
   refine Qz rfl 50 _ rfl ⟨ag,z * 19,none⟩ rfl d1 _ aCL.out underlying50 rfl (by rw [aZ.out];kernel_rfl) ?_
   refine Yg rfl ?_
   go_simp
   refine V8 ?_
   have aB8:(wr.alloc (.cells #[.int .i64 0,.int .i64 0,.int .i64 0,.int .i64 0,.slice none 0 0,.int .i64 0,.int .i64 0,.slice none 0 0,.slice none 0 0,.slice none 0 0,.int .i64 0,.int .i64 0,.int .i64 0,.int .i64 0,.int .i64 0,.int .i64 0,.int .i64 0,.int .i64 0,.int .i64 0] 50)).heap[q1]? =some (.cells Z4 50 (0,0)):=by rw [aq];exact Zc _ _
   have aM8:Ze [] wr (wr.alloc (.cells #[.int .i64 0,.int .i64 0,.int .i64 0,.int .i64 0,.slice none 0 0,.int .i64 0,.int .i64 0,.slice none 0 0,.slice none 0 0,.slice none 0 0,.int .i64 0,.int .i64 0,.int .i64 0,.int .i64 0,.int .i64 0,.int .i64 0,.int .i64 0,.int .i64 0,.int .i64 0] 50)):=(Zr_ _ _).alloc _
   rw [←aq]
   have aQ:=Zh_ aq
   clear aq
   generalize wr.alloc (.cells #[.int .i64 0,.int .i64 0,.int .i64 0,.int .i64 0,.slice none 0 0,.int .i64 0,.int .i64 0,.slice none 0 0,.slice none 0 0,.slice none 0 0,.int .i64 0,.int .i64 0,.int .i64 0,.int .i64 0,.int .i64 0,.int .i64 0,.int .i64 0,.int .i64 0,.int .i64 0] 50)=w60 at *
   refine wpList_store_row rfl 50 _ _ rfl q1 d1 rfl rfl 50 _ aB8 (by rw [aZ.out];kernel_rfl) (by rw [aZ.out];rfl) (by rw [Array.all_eq_true_iff_forall_mem];intro u hu;exact aON.out u (by simpa using hu)) ?_
   have aB9:(w60.setRow q1 d1).heap[q1]? =some (.cells d1 50 (0,0)):=Yo aB8
   have aM9:Ze [] wr (w60.setRow q1 d1):=aM8.setRow _ _ (.inr (by rw [aQ.out];exact Nat.le_refl _))
   have aB:=Zh_ aB9
   have aM:=Zh_ aM9
   clear aB8 aM8 aB9 aM9
   generalize w60.setRow q1 d1=w6 at *
   go_simp
   have ht:=Cx ds z (by rw [←HN.out];exact hlt)
   have hle:=manyD_le ds z
   obtain ⟨xn,xhn⟩:∃ r,r=(Q5 ds z).number:=⟨_,rfl⟩
   rw [←xhn] at ht
   have xHn:=Zh_ xhn
   clear xhn
   have xcn:w6.cell? ⟨q1,6,none⟩=some (.int .i64 xn):=Za aB.out (by rw [aCS.out,xHn.out];rfl)
   obtain ⟨mz,hmz⟩:∃ c,c=Jq (ds.take z):=⟨_,rfl⟩
   rw [←hmz] at ht hle ⊢
   have HT:=Zh_ ht
   clear ht hmz
   by_cases hpos:0 < xn
   ·have d1:decide (xn > 0)=true:=decide_eq_true (by omega)
    go_wp2_with fail
    go_roundw
    case rel=>exact ⟨z+1,by omega,by go_num,by rw [HT.out,if_pos hpos];go_num,HM.out.trans aM.out⟩
    case measure=>simp [intOf];omega
   ·have d1:decide (xn > 0)=false:=decide_eq_false (by omega)
    go_wp2_with fail
    go_roundw
    case rel=>exact ⟨z+1,by omega,by go_num,by rw [HT.out,if_neg hpos];go_num,HM.out.trans aM.out⟩
    case measure=>simp [intOf];omega
  ·have d4:decide ((z:Int) < (n:Int))=false:=decide_eq_false (by omega)
   obtain rfl:n=z:=by omega
   have hall:ds.take n=ds:=List.take_of_length_le (by rw [HN.out];exact Nat.le_refl _)
   rw [hall]
   obtain ⟨mn,hmn⟩:∃ c,c=Jq ds:=⟨_,rfl⟩
   rw [←hmn]
   have HMN:=Zh_ hmn
   clear hall hmn hlt
   have HM1:=HM
   clear HM
   go_wp2_with fail
   clear d4
   generalize wr=w5 at *
   have HM5:=HM1
   clear HM1
   go_loopw [53] (fun i wx=>∃ z:Nat,z≤n∧i=.int .i64 z∧Ze [] w5 wx) (fun i _=>n - (intOf i).toNat)
   case atStart=>exact ⟨0,by omega,rfl,Zr_ _ _⟩
   case round=>as_aux_lemma=>
    obtain ⟨z,hz,rfl,m⟩:=hrel
    have HM:=Zh_ (HM5.out.trans m)
    have HMw:=Zh_ m
    clear m
    by_cases hlt:z < n
    ·have d4:decide ((z:Int) < (n:Int))=true:=decide_eq_true (by omega)
     go_upto_region 16 with fail
     obtain ⟨⟨ag,ae,ahg,ahc⟩,aone⟩:=HF.out z (by omega)
     subst ae
     obtain ⟨d1,acs⟩:∃ cs:Array Value,cs=(Z3 (Q5 ds z) (es.getD z X1)).toArray:=⟨_,rfl⟩
     have az:d1.size=19:=by rw [acs];rfl
     have acl:∀ (i0:Nat) (v:Value),d1.toList[i0]? =some v→wr.cell? ((⟨ag,z * 19,none⟩:Addr).add i0)=some v:=by
      rw [acs]
      exact fun i0 v hv=>Zx HM.out (by rw [Qy];exact ahg) (by simp) (ahc i0 v (by simpa using hv))
     have aon:∀ u∈d1.toList,u.oneCell'=true:=by rw [acs];simpa using aone
     have aCS:=Zh_ acs
     have aZ:=Zh_ az
     have aCL:=Zh_ acl
     have aON:=Zh_ aon
     obtain ⟨q1,aq⟩:∃ r,r=wr.heap.size:=⟨_,rfl⟩
     clear ahg ahc aone acs az acl aon
     refine wp_region_lit ?_
     refine Yx (.pointer (some ⟨ag,z * 19,none⟩)) rfl (by go_simp) ?_
     refine Qz rfl 50 _ rfl ⟨ag,z * 19,none⟩ rfl d1 _ aCL.out underlying50 rfl (by rw [aZ.out];kernel_rfl) ?_
     refine Yg rfl ?_
     go_simp
     refine V8 ?_
     have aB8:(wr.alloc (.cells #[.int .i64 0,.int .i64 0,.int .i64 0,.int .i64 0,.slice none 0 0,.int .i64 0,.int .i64 0,.slice none 0 0,.slice none 0 0,.slice none 0 0,.int .i64 0,.int .i64 0,.int .i64 0,.int .i64 0,.int .i64 0,.int .i64 0,.int .i64 0,.int .i64 0,.int .i64 0] 50)).heap[q1]? =some (.cells Z4 50 (0,0)):=by rw [aq];exact Zc _ _
     have aM8:Ze [] wr (wr.alloc (.cells #[.int .i64 0,.int .i64 0,.int .i64 0,.int .i64 0,.slice none 0 0,.int .i64 0,.int .i64 0,.slice none 0 0,.slice none 0 0,.slice none 0 0,.int .i64 0,.int .i64 0,.int .i64 0,.int .i64 0,.int .i64 0,.int .i64 0,.int .i64 0,.int .i64 0,.int .i64 0] 50)):=(Zr_ _ _).alloc _
     rw [←aq]
     have aQ:=Zh_ aq
     clear aq
     generalize wr.alloc (.cells #[.int .i64 0,.int .i64 0,.int .i64 0,.int .i64 0,.slice none 0 0,.int .i64 0,.int .i64 0,.slice none 0 0,.slice none 0 0,.slice none 0 0,.int .i64 0,.int .i64 0,.int .i64 0,.int .i64 0,.int .i64 0,.int .i64 0,.int .i64 0,.int .i64 0,.int .i64 0] 50)=w60 at *
     refine wpList_store_row rfl 50 _ _ rfl q1 d1 rfl rfl 50 _ aB8 (by rw [aZ.out];kernel_rfl) (by rw [aZ.out];rfl) (by rw [Array.all_eq_true_iff_forall_mem];intro u hu;exact aON.out u (by simpa using hu)) ?_
     have aB9:(w60.setRow q1 d1).heap[q1]? =some (.cells d1 50 (0,0)):=Yo aB8
     have aM9:Ze [] wr (w60.setRow q1 d1):=aM8.setRow _ _ (.inr (by rw [aQ.out];exact Nat.le_refl _))
     have aB:=Zh_ aB9
     have aM:=Zh_ aM9
     clear aB8 aM8 aB9 aM9
     generalize w60.setRow q1 d1=w6 at *
     go_simp
     have L:=HLAW.out z (by rw [←HN.out];exact hlt)
     have HL:=Zh_ L
     obtain ⟨⟨ln1,ln2⟩,⟨lm1,lm2⟩,-,-,-,-⟩:=L
     rw [←HMN.out] at ln2
     rw [←HN.out] at lm1
     obtain ⟨xth,xhth⟩:∃ r,r=(Q5 ds z).th:=⟨_,rfl⟩
     obtain ⟨xno,xhno⟩:∃ r,r=(Q5 ds z).no:=⟨_,rfl⟩
     obtain ⟨xtg,xhtg⟩:∃ r,r=(Q5 ds z).tag:=⟨_,rfl⟩
     obtain ⟨xm,xhm⟩:∃ r,r=(Q5 ds z).mark:=⟨_,rfl⟩
     obtain ⟨xn,xhn⟩:∃ r,r=(Q5 ds z).number:=⟨_,rfl⟩
     obtain ⟨xb,xhb⟩:∃ r,r=(Q5 ds z).bgn:=⟨_,rfl⟩
     obtain ⟨xe,xhe⟩:∃ r,r=(Q5 ds z).ended:=⟨_,rfl⟩
     rw [←xhn] at ln1 ln2
     rw [←xhm] at lm1 lm2
     have xHth:=Zh_ xhth
     have xHno:=Zh_ xhno
     have xHtg:=Zh_ xhtg
     have xHm:=Zh_ xhm
     have xHn:=Zh_ xhn
     have xHb:=Zh_ xhb
     have xHe:=Zh_ xhe
     clear xhth xhno xhtg xhm xhn xhb xhe
     have xcm:w6.cell? ⟨q1,5,none⟩=some (.int .i64 xm):=Za aB.out (by rw [aCS.out,xHm.out];rfl)
     have xcn:w6.cell? ⟨q1,6,none⟩=some (.int .i64 xn):=Za aB.out (by rw [aCS.out,xHn.out];rfl)
     have e1:decide (xn < 0)=false:=decide_eq_false (by omega)
     have e2:decide (xn > (mn:Int))=false:=decide_eq_false (by omega)
     have e3:decide (xm > (n:Int))=false:=decide_eq_false (by omega)
     have e4:decide (xm < -1)=false:=decide_eq_false (by omega)
     go_wp2_with fail
     have HMW:=Zh_ (HM.out.trans aM.out)
     clear xcn xcm e1 e2 e3 e4 ln1 ln2 lm1 lm2
     go_loopw [80,14] (fun i c wx=>∃ j:Nat,j≤n∧i=.int .i64 j∧c=.int .i64 ((ds.take j).countP (Vh xb))∧Ze [] w6 wx) (fun i _ _=>n - (intOf i).toNat)
     case atStart=>exact ⟨0,by omega,rfl,by rw [List.take_zero];rfl,Zr_ _ _⟩
     case round=>as_aux_lemma=>
      obtain ⟨j,hj,rfl,rfl,m⟩:=hrel
      by_cases hlj:j < n
      ·have d5:decide ((j:Int) < (n:Int))=true:=decide_eq_true (by omega)
       have HM6:=Zh_ m
       have HM4:=Zh_ (HMW.out.trans m)
       have ht:=C8 ds xb j (by rw [←HN.out];exact hlj)
       have hle:=early_le ds xb j
       obtain ⟨cj,hcj⟩:∃ c,c=(ds.take j).countP (Vh xb):=⟨_,rfl⟩
       rw [←hcj] at ht hle ⊢
       have hcj8:cj≤4000:=by omega
       obtain ⟨b23,hb23⟩:∃ b,b=Vh xb (Q5 ds j):=⟨_,rfl⟩
       rw [←hb23] at ht
       have HT:=Zh_ ht
       clear m hcj ht hle
       go_upto_region 22 with fail
       obtain ⟨⟨bg,be,bhg,bhc⟩,bone⟩:=HF.out j (by omega)
       obtain rfl:bg=ag:=by simpa using be.symm
       obtain ⟨d2,bcs⟩:∃ cs:Array Value,cs=(Z3 (Q5 ds j) (es.getD j X1)).toArray:=⟨_,rfl⟩
       have bz:d2.size=19:=by rw [bcs];rfl
       have bcl:∀ (i0:Nat) (v:Value),d2.toList[i0]? =some v→wr.cell? ((⟨bg,j * 19,none⟩:Addr).add i0)=some v:=by
        rw [bcs]
        exact fun i0 v hv=>Zx HM4.out (by rw [Qy];exact bhg) (by simp) (bhc i0 v (by simpa using hv))
       have bon:∀ u∈d2.toList,u.oneCell'=true:=by rw [bcs];simpa using bone
       have bCS:=Zh_ bcs
       have bZ:=Zh_ bz
       have bCL:=Zh_ bcl
       have bON:=Zh_ bon
       obtain ⟨q2,bq⟩:∃ r,r=wr.heap.size:=⟨_,rfl⟩
       clear bhg bhc bone bcs bz bcl bon
       refine wp_region_lit ?_
       refine Yx (.pointer (some ⟨bg,j * 19,none⟩)) rfl (by go_simp) ?_
       refine Qz rfl 50 _ rfl ⟨bg,j * 19,none⟩ rfl d2 _ bCL.out underlying50 rfl (by rw [bZ.out];kernel_rfl) ?_
       refine Yg rfl ?_
       go_simp
       refine V8 ?_
       have bB8:(wr.alloc (.cells #[.int .i64 0,.int .i64 0,.int .i64 0,.int .i64 0,.slice none 0 0,.int .i64 0,.int .i64 0,.slice none 0 0,.slice none 0 0,.slice none 0 0,.int .i64 0,.int .i64 0,.int .i64 0,.int .i64 0,.int .i64 0,.int .i64 0,.int .i64 0,.int .i64 0,.int .i64 0] 50)).heap[q2]? =some (.cells Z4 50 (0,0)):=by rw [bq];exact Zc _ _
       have bM8:Ze [] wr (wr.alloc (.cells #[.int .i64 0,.int .i64 0,.int .i64 0,.int .i64 0,.slice none 0 0,.int .i64 0,.int .i64 0,.slice none 0 0,.slice none 0 0,.slice none 0 0,.int .i64 0,.int .i64 0,.int .i64 0,.int .i64 0,.int .i64 0,.int .i64 0,.int .i64 0,.int .i64 0,.int .i64 0] 50)):=(Zr_ _ _).alloc _
       rw [←bq]
       have bQ:=Zh_ bq
       clear bq
       generalize wr.alloc (.cells #[.int .i64 0,.int .i64 0,.int .i64 0,.int .i64 0,.slice none 0 0,.int .i64 0,.int .i64 0,.slice none 0 0,.slice none 0 0,.slice none 0 0,.int .i64 0,.int .i64 0,.int .i64 0,.int .i64 0,.int .i64 0,.int .i64 0,.int .i64 0,.int .i64 0,.int .i64 0] 50)=w80 at *
       refine wpList_store_row rfl 50 _ _ rfl q2 d2 rfl rfl 50 _ bB8 (by rw [bZ.out];kernel_rfl) (by rw [bZ.out];rfl) (by rw [Array.all_eq_true_iff_forall_mem];intro u hu;exact bON.out u (by simpa using hu)) ?_
       have bB9:(w80.setRow q2 d2).heap[q2]? =some (.cells d2 50 (0,0)):=Yo bB8
       have bM9:Ze [] wr (w80.setRow q2 d2):=bM8.setRow _ _ (.inr (by rw [bQ.out];exact Nat.le_refl _))
       have bB:=Zh_ bB9
       have bM:=Zh_ bM9
       clear bB8 bM8 bB9 bM9
       generalize w80.setRow q2 d2=w8 at *
       go_simp
       obtain ⟨yth,yhth⟩:∃ r,r=(Q5 ds j).th:=⟨_,rfl⟩
       obtain ⟨yno,yhno⟩:∃ r,r=(Q5 ds j).no:=⟨_,rfl⟩
       obtain ⟨ytg,yhtg⟩:∃ r,r=(Q5 ds j).tag:=⟨_,rfl⟩
       obtain ⟨ym,yhm⟩:∃ r,r=(Q5 ds j).mark:=⟨_,rfl⟩
       obtain ⟨yn,yhn⟩:∃ r,r=(Q5 ds j).number:=⟨_,rfl⟩
       obtain ⟨ye,yhe⟩:∃ r,r=(Q5 ds j).ended:=⟨_,rfl⟩
       have hb:b23=decide (0 < yn∧0 < ye∧ye < xb):=by rw [hb23,yhn,yhe];rfl
       have HB23:=Zh_ hb
       clear hb hb23
       have yHth:=Zh_ yhth
       have yHno:=Zh_ yhno
       have yHtg:=Zh_ yhtg
       have yHm:=Zh_ yhm
       have yHn:=Zh_ yhn
       have yHe:=Zh_ yhe
       clear yhth yhno yhtg yhm yhn yhe
       have XB:=Zh_ ((HM6.out.trans bM.out).at aB.out (by simp))
       have L1:=Zh_ (show 0 < xn→0 < yn→xn≠yn→(xn < yn↔xm < ym) from by
        rw [xHn.out,yHn.out,xHm.out,yHm.out];exact HL.out.order j (by rw [←HN.out];exact hlj))
       have L2:=Zh_ (show 0 < xn→xn=yn→xth=yth∧xno=yno∧xm=ym from by
        intro h1 h2
        rw [xHn.out] at h1
        rw [xHn.out,yHn.out] at h2
        have:=HL.out.same j (by rw [←HN.out];exact hlj) h1 h2
        rw [xHth.out,yHth.out,xHno.out,yHno.out,xHm.out,yHm.out,this]
        exact ⟨rfl,rfl,rfl⟩)
       have L3:=Zh_ (show xtg=2→ytg=2→0≤xm→xm < ym→0 < ye→0 < xe∧xe≤ye from by
        rw [xHtg.out,yHtg.out,xHm.out,yHm.out,xHe.out,yHe.out];exact HL.out.ends j (by rw [←HN.out];exact hlj))
       have xcth:w8.cell? ⟨q1,0,none⟩=some (.int .i64 xth):=Za XB.out (by rw [aCS.out,xHth.out];rfl)
       have xcno:w8.cell? ⟨q1,1,none⟩=some (.int .i64 xno):=Za XB.out (by rw [aCS.out,xHno.out];rfl)
       have xctg:w8.cell? ⟨q1,3,none⟩=some (.int .i64 xtg):=Za XB.out (by rw [aCS.out,xHtg.out];rfl)
       have xcm:w8.cell? ⟨q1,5,none⟩=some (.int .i64 xm):=Za XB.out (by rw [aCS.out,xHm.out];rfl)
       have xcn:w8.cell? ⟨q1,6,none⟩=some (.int .i64 xn):=Za XB.out (by rw [aCS.out,xHn.out];rfl)
       have xcb:w8.cell? ⟨q1,13,none⟩=some (.int .i64 xb):=Za XB.out (by rw [aCS.out,xHb.out];rfl)
       have xce:w8.cell? ⟨q1,14,none⟩=some (.int .i64 xe):=Za XB.out (by rw [aCS.out,xHe.out];rfl)
       have ycth:w8.cell? ⟨q2,0,none⟩=some (.int .i64 yth):=Za bB.out (by rw [bCS.out,yHth.out];rfl)
       have ycno:w8.cell? ⟨q2,1,none⟩=some (.int .i64 yno):=Za bB.out (by rw [bCS.out,yHno.out];rfl)
       have yctg:w8.cell? ⟨q2,3,none⟩=some (.int .i64 ytg):=Za bB.out (by rw [bCS.out,yHtg.out];rfl)
       have ycm:w8.cell? ⟨q2,5,none⟩=some (.int .i64 ym):=Za bB.out (by rw [bCS.out,yHm.out];rfl)
       have ycn:w8.cell? ⟨q2,6,none⟩=some (.int .i64 yn):=Za bB.out (by rw [bCS.out,yHn.out];rfl)
       have yce:w8.cell? ⟨q2,14,none⟩=some (.int .i64 ye):=Za bB.out (by rw [bCS.out,yHe.out];rfl)
       clear d5
       go_upto_region 23 with fail
       go_cut [98] (fun A wx=>A=.bool b23∧wx=w8)
       case first=>as_aux_lemma=>
        by_cases p1:0 < yn
        ·have e1:decide (yn > 0)=true:=decide_eq_true p1
         by_cases p2:0 < ye
         ·have e2:decide (ye > 0)=true:=decide_eq_true p2
          by_cases p3:ye < xb
          ·have e3:decide (ye < xb)=true:=decide_eq_true p3
           go_wp2_with fail
           go_meet
           exact ⟨congrArg Value.bool (by rw [HB23.out];exact (decide_eq_true ⟨p1,p2,p3⟩).symm),rfl⟩
          ·have e3:decide (ye < xb)=false:=decide_eq_false p3
           go_wp2_with fail
           go_meet
           exact ⟨congrArg Value.bool (by rw [HB23.out];exact (decide_eq_false (by omega)).symm),rfl⟩
         ·have e2:decide (ye > 0)=false:=decide_eq_false p2
          go_wp2_with fail
          go_meet
          exact ⟨congrArg Value.bool (by rw [HB23.out];exact (decide_eq_false (by omega)).symm),rfl⟩
        ·have e1:decide (yn > 0)=false:=decide_eq_false p1
         go_wp2_with fail
         go_meet
         exact ⟨congrArg Value.bool (by rw [HB23.out];exact (decide_eq_false (by omega)).symm),rfl⟩
       case rest=>as_aux_lemma=>
        obtain ⟨rfl,hw'⟩:=hcut
        have hw:=hw'.symm
        subst hw
        obtain ⟨cN,hcN⟩:∃ c,c=cj+(if b23=true then 1 else 0):=⟨_,rfl⟩
        have HCN:=Zh_ hcN
        clear hcN
        go_upto_if 98 with fail
        go_cut [14] (fun A wx=>A=.int .i64 (cN:Int)∧wx=w8)
        case first=>as_aux_lemma=>
         cases b23
         ·go_wp2_with fail
          go_meet
          exact ⟨by rw [HCN.out];simp,rfl⟩
         ·go_wp2_with fail
          go_meet
          exact ⟨by rw [HCN.out];simp,rfl⟩
        case rest=>as_aux_lemma=>
         obtain ⟨rfl,hw'⟩:=hcut
         have hw:=hw'.symm
         subst hw
         go_upto_region 25 with fail
         go_cut [128] (fun A wx=>A=.bool false∧wx=w8)
         case first=>as_aux_lemma=>
          by_cases p1:0 < xn
          ·have f1:decide (xn > 0)=true:=decide_eq_true p1
           by_cases p2:0 < yn
           ·have f2:decide (yn > 0)=true:=decide_eq_true p2
            by_cases p3:xn < yn
            ·have f3:decide (xn < yn)=true:=decide_eq_true p3
             have f4:decide (xm < ym)=true:=decide_eq_true ((L1.out p1 p2 (by omega)).1 p3)
             go_wp2_with fail
             go_meet
             exact ⟨rfl,rfl⟩
            ·have f3:decide (xn < yn)=false:=decide_eq_false p3
             have f4:decide (xm < ym)=false:=decide_eq_false (by
              by_cases p4:xn=yn
              ·have:=(L2.out p1 p4).2.2;omega
              ·intro h;exact p3 ((L1.out p1 p2 p4).2 h))
             go_wp2_with fail
             go_meet
             exact ⟨rfl,rfl⟩
           ·have f2:decide (yn > 0)=false:=decide_eq_false p2
            go_wp2_with fail
            go_meet
            exact ⟨rfl,rfl⟩
          ·have f1:decide (xn > 0)=false:=decide_eq_false p1
           go_wp2_with fail
           go_meet
           exact ⟨rfl,rfl⟩
         case rest=>as_aux_lemma=>
          obtain ⟨rfl,hw'⟩:=hcut
          have hw:=hw'.symm
          subst hw
          go_upto_region 27 with fail
          go_cut [152] (fun A wx=>A=.bool false∧wx=w8)
          case first=>as_aux_lemma=>
           by_cases p1:0 < xn
           ·have f1:decide (xn > 0)=true:=decide_eq_true p1
            by_cases p2:xn=yn
            ·have f2:(xn==yn)=true:=by simp [p2]
             obtain ⟨h1,h2,-⟩:=L2.out p1 p2
             have f3:(xth !=yth)=false:=by simp [h1]
             have f4:(xno !=yno)=false:=by simp [h2]
             clear p2 h1 h2
             go_wp2_with fail
             go_meet
             exact ⟨rfl,rfl⟩
            ·have f2:(xn==yn)=false:=by simp [p2]
             go_wp2_with fail
             go_meet
             exact ⟨rfl,rfl⟩
           ·have f1:decide (xn > 0)=false:=decide_eq_false p1
            go_wp2_with fail
            go_meet
            exact ⟨rfl,rfl⟩
          case rest=>as_aux_lemma=>
           obtain ⟨rfl,hw'⟩:=hcut
           have hw:=hw'.symm
           subst hw
           go_upto_region 29 with fail
           go_cut [189] (fun A wx=>A=.bool false∧wx=w8)
           case first=>as_aux_lemma=>
            by_cases p1:xtg=2
            ·have f1:(xtg==2)=true:=by simp [p1]
             by_cases p2:ytg=2
             ·have f2:(ytg==2)=true:=by simp [p2]
              by_cases p3:0≤xm
              ·have f3:decide (xm≥0)=true:=decide_eq_true p3
               by_cases p4:xm < ym
               ·have f4:decide (xm < ym)=true:=decide_eq_true p4
                by_cases p5:0 < ye
                ·have f5:decide (ye > 0)=true:=decide_eq_true p5
                 obtain ⟨h1,h2⟩:=L3.out p1 p2 p3 p4 p5
                 have f6:(xe==0)=false:=by simp;omega
                 have f7:decide (xe > ye)=false:=decide_eq_false (by omega)
                 clear p1 p2 h1 h2
                 go_wp2_with fail
                 go_meet
                 exact ⟨rfl,rfl⟩
                ·have f5:decide (ye > 0)=false:=decide_eq_false p5
                 clear p1 p2
                 go_wp2_with fail
                 go_meet
                 exact ⟨rfl,rfl⟩
               ·have f4:decide (xm < ym)=false:=decide_eq_false p4
                clear p1 p2
                go_wp2_with fail
                go_meet
                exact ⟨rfl,rfl⟩
              ·have f3:decide (xm≥0)=false:=decide_eq_false p3
               clear p1 p2
               go_wp2_with fail
               go_meet
               exact ⟨rfl,rfl⟩
             ·have f2:(ytg==2)=false:=by simp [p2]
              clear p1
              go_wp2_with fail
              go_meet
              exact ⟨rfl,rfl⟩
            ·have f1:(xtg==2)=false:=by simp [p1]
             go_wp2_with fail
             go_meet
             exact ⟨rfl,rfl⟩
           case rest=>as_aux_lemma=>
            obtain ⟨rfl,hw'⟩:=hcut
            have hw:=hw'.symm
            subst hw
            clear xcth xcno xctg xcm xcn xcb xce ycth ycno yctg ycm ycn yce
            go_wp2_with fail
            go_roundw
            case rel=>
             have hrel:Value.int .i64 (cN:Int)=.int .i64 ((ds.take (j+1)).countP (Vh xb)):=by rw [HT.out,HCN.out]
             first
             |exact ⟨j+1,by omega,by go_num,hrel,HM6.out.trans bM.out⟩
             |((repeat apply Exists.intro);exact ⟨⟨j+1,by omega,by go_num,hrel,HM6.out.trans bM.out⟩,rfl⟩)
            case measure=>simp [intOf];omega
      ·have d5:decide ((j:Int) < (n:Int))=false:=decide_eq_false (by omega)
       obtain rfl:n=j:=by omega
       have hall:ds.take n=ds:=List.take_of_length_le (by rw [HN.out];exact Nat.le_refl _)
       rw [hall]
       have HMW2:=Zh_ (HMW.out.trans m)
       have XB:=Zh_ (m.at aB.out (by simp))
       have hrd:xtg≠2→0≤xm→xm≤(mn:Int)∧((ds.countP (Vh xb):Nat):Int)≤xm:=by
        rw [xHtg.out,xHm.out,xHb.out,HMN.out]
        exact HL.out.rd
       obtain ⟨cn,hcn⟩:∃ c,c=ds.countP (Vh xb):=⟨_,rfl⟩
       rw [←hcn] at hrd ⊢
       have HMR:=Zh_ ((HMw.out.trans aM.out).trans m)
       clear hall hcn m
       have xctg:wr.cell? ⟨q1,3,none⟩=some (.int .i64 xtg):=Za XB.out (by rw [aCS.out,xHtg.out];rfl)
       have xcm:wr.cell? ⟨q1,5,none⟩=some (.int .i64 xm):=Za XB.out (by rw [aCS.out,xHm.out];rfl)
       go_upto_region 32 with fail
       clear d5
       by_cases p1:xtg=2
       ·have f1:(xtg !=2)=false:=by simp [p1]
        clear p1 hrd
        go_wp2_with fail
        go_roundw
        case rel=>
         first
         |exact ⟨z+1,by omega,by go_num,HMR.out⟩
         |((repeat apply Exists.intro);exact ⟨⟨z+1,by omega,by go_num,HMR.out⟩,rfl⟩)
        case measure=>simp [intOf];omega
       ·have f1:(xtg !=2)=true:=by simp [p1]
        by_cases p2:0≤xm
        ·have f2:decide (xm≥0)=true:=decide_eq_true p2
         obtain ⟨h1,h2⟩:=hrd p1 p2
         have f3:decide (xm > (mn:Int))=false:=decide_eq_false (by omega)
         have f4:decide (xm < (cn:Int))=false:=decide_eq_false (by omega)
         clear p1 hrd
         go_wp2_with fail
         go_roundw
         case rel=>
          first
          |exact ⟨z+1,by omega,by go_num,HMR.out⟩
          |((repeat apply Exists.intro);exact ⟨⟨z+1,by omega,by go_num,HMR.out⟩,rfl⟩)
         case measure=>simp [intOf];omega
        ·have f2:decide (xm≥0)=false:=decide_eq_false p2
         clear p1 hrd
         go_wp2_with fail
         go_roundw
         case rel=>
          first
          |exact ⟨z+1,by omega,by go_num,HMR.out⟩
          |((repeat apply Exists.intro);exact ⟨⟨z+1,by omega,by go_num,HMR.out⟩,rfl⟩)
         case measure=>simp [intOf];omega
    ·have d4:decide ((z:Int) < (n:Int))=false:=decide_eq_false (by omega)
     go_wp2
     go_ret
     exact ⟨rfl,M4.out.trans HM.out⟩
end
end Go.Proofs.YtkhonmhnchdpkaaGreat
