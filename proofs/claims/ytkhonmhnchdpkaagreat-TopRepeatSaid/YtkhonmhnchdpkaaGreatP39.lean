/- A part of the proof; no condition. -/
import Derived.Test.YtkhonmhnchdpkaaGreatP38
set_option maxRecDepth 100000
set_option maxHeartbeats 40000000
namespace Go.Proofs.YtkhonmhnchdpkaaGreat
open Go.RowKit _root_.Go.Proofs.Tryz
section
def Sc (l:List Zv) (i:Nat):Zv:=l.getD i Qc
end
section
variable {w w0 w':World}
theorem Vv.sinv {e0 s:Zq} {ts:List Nat} (h:Vv e0 ts s) (k:Ym e0) (hs:Qj e0) (hl:e0.Len) (ht:∀ t∈ts,t < e0.ths.length) (hn:e0.steps+ts.length < 1000000000):Qj s/\s.Len:=by
 induction h with
 |nil s=>exact ⟨hs,hl⟩
 |@cons s r t l v h ih=>
  have q:=k.step (ht t (by simp)) v;have e:=(Ge s t v).1;simp only [List.length_cons] at hn;exact ih q.1 (hs.step k (ht t (by simp)) (by omega) v) (hl.step k (ht t (by simp)) v) (λ u hu=>by rw [q.2];exact ht u (by simp [hu])) (by omega)
structure Xy (w0:World) (x:Nat) (e0:Zq) (ts:List Nat) (s:Zq) (w:World):Prop where
 run:Vv e0 ts s
 at':∃ lab P,P.x=x/\Yu w0 w lab P s
 ok:Ym e0
 si:Qj e0
 ln:e0.Len
 lt:∀ t∈ts,t < e0.ths.length
 z:e0.steps=0
variable {x:Nat} {e0 s:Zq} {ts:List Nat} {l:List Int} {v:Value}
theorem Xy.mod (h:Xy w0 x e0 ts s w) (m:Ze [] w w'):Xy w0 x e0 ts s w':=by
 obtain ⟨h1,⟨lab,P,e,h2⟩,h3,h4,h5,h6,h7⟩:=h;exact ⟨h1,⟨lab,P,e,h2.quiet m Z1⟩,h3,h4,h5,h6,h7⟩
theorem Xy.okS (h:Xy w0 x e0 ts s w):Ym s/\s.ths.length=e0.ths.length:=h.run.ok h.ok h.lt
theorem Xy.siS (h:Xy w0 x e0 ts s w) (hn:ts.length < 1000000000):Qj s/\s.Len:=h.run.sinv h.ok h.si h.ln h.lt (by rw [h.z];omega)
theorem Xy.fr (h:Xy w0 x e0 ts s w):Ze [] w0 w:=by
 obtain ⟨lab,P,e,h2⟩:=h.at';exact h2.fr
theorem Xy.run_c (h:Xy w0 x e0 ts s w) (hv:Dh w v l) (hl:l.length<=65536) (hn:ts.length+l.length < 1000000000):
  Calls Tryz.prog 9 #[.pointer (some ⟨x,0,none⟩),v] w λ e w'=>∃ n s',e=.returned (.tuple #[.int .i64 n,.int .i64 0])/\Xy w0 x e0 (ts++Q9 e0.ths.length l) s' w':=by
 obtain ⟨k,hk⟩:=h.okS;obtain ⟨lab,P,e,h2⟩:=id h.at';have hst:=h.run.steps;have C:=_root_.Go.Proofs.YtkhonmhnchdpkaaGreat.run_c h2 k hv hl (by rw [h.z] at hst;omega);unfold Xs at C;rw [e] at C;refine C.mono ?_;rintro e' w2 ⟨n,s',rfl,R,lab2,P2,q1,q2,q3⟩;rw [hk] at R;refine ⟨n,s',rfl,h.run.trans R,⟨lab2,P2,q2.x.trans e,q1⟩,h.ok,h.si,h.ln,?_,h.z⟩;intro t ht;rcases List.mem_append.1 ht with ht|ht
 ·exact h.lt t ht
 ·exact Tl (by rw [<-hk];exact h2.n1) l t ht
theorem Xy.over_c (h:Xy w0 x e0 ts s w):Calls Tryz.prog 20 #[.pointer (some ⟨x,0,none⟩)] w λ e w'=>e=.returned (.bool s.over)/\Ze [] w w':=by
 obtain ⟨lab,P,e,h2⟩:=id h.at';have C:=_root_.Go.Proofs.YtkhonmhnchdpkaaGreat.over_c h2 h.okS.1.goes;unfold Xs at C;rw [e] at C;exact C
theorem Xy.state_c (h:Xy w0 x e0 ts s w):Calls Tryz.prog 14 #[.pointer (some ⟨x,0,none⟩)] w (StateP w s.state):=by
 obtain ⟨lab,P,e,h2⟩:=id h.at';have C:=_root_.Go.Proofs.YtkhonmhnchdpkaaGreat.state_c h2 h.okS.1;unfold Xs at C;rw [e] at C;exact C
theorem Xy.deeds_c (h:Xy w0 x e0 ts s w) (hn:ts.length < 1000000000):Calls Tryz.prog 10 #[.pointer (some ⟨x,0,none⟩)] w (DeedsP w s.view):=by
 obtain ⟨lab,P,e,h2⟩:=id h.at';obtain ⟨s1,s2⟩:=h.siS hn;have hst:=h.run.steps;have C:=_root_.Go.Proofs.YtkhonmhnchdpkaaGreat.deeds_c h2 h.okS.1 s2 (by have:=h.okS.1.st;rw [h.z] at hst;omega);unfold Xs at C;rw [e] at C;exact C
theorem Dy {c0 c1 c2 c3:Int} {start:List Nat} {progs:List (Int×List Xf)} {cs:List (List (Int×List Nat))} (hk:P3 c0 c1 c2 c3 start.length progs.length cs) (hpl:∀ p∈progs,p.2.length<=5864062014635) (h:Ka w v c0 c1 c2 c3 start progs cs):
  Calls Tryz.prog 17 #[v] w λ e w'=>∃ x,e=.returned (.tuple #[.pointer (some ⟨x,0,none⟩),.int .i64 0])/\Xy w x (U1 c0 c1 c2 c3 start progs cs) [] (U1 c0 c1 c2 c3 start progs cs) w':=by
 obtain ⟨vs,vp,vt,rfl,hS,hP,hT⟩:=h.f;refine (new_c hk hpl hT hP hS).mono ?_;rintro e w' ⟨x,a,b,r,vp',vt',kts,vcs,rfl,K,m⟩;obtain ⟨lab,P,e,H⟩:=K.eng hk.cf m;exact ⟨x,rfl,.nil _,⟨lab,P,e,H⟩,newE_ok hk hpl,Wg hk.cf,newE_Len,λ t ht=>(by simp at ht),rfl⟩
theorem Ka.mod {c0 c1 c2 c3:Int} {start:List Nat} {progs:List (Int×List Xf)} {cs:List (List (Int×List Nat))} (h:Ka w v c0 c1 c2 c3 start progs cs) (m:Ze [] w w'):Ka w' v c0 c1 c2 c3 start progs cs:=by
 obtain ⟨vs,vp,vt,e,hS,hP,hT⟩:=h.f;exact ⟨vs,vp,vt,e,hS.mod m,hP.mod m,hT.mod m⟩
theorem Pq {g:Nat} (h:w.heap[g]? =some (.cells ((l.map (Value.int .i64)).toArray) 3 (0,0))):Dh w (.slice (some ⟨g,0,none⟩) l.length l.length) l:=by
 refine ⟨_,_,rfl,.inr ⟨g,0,rfl,lt_of_block h,λ i hi=>?_⟩⟩;rw [Nat.zero_add];refine Za h ?_;simp [hi]
theorem Lp:P3 2 3 30 2 ([]:List Nat).length Fw.length R3:=Dk (by decide+kernel)
theorem live_len:∀ p∈Fw,p.2.length<=5864062014635:=by
 intro p hp;simp only [Fw,List.mem_cons,List.not_mem_nil,or_false] at hp;rcases hp with rfl|rfl <;> decide
theorem Ux.cell {n0:Nat} {ds:List Zv} {es:List DX} {g c cap k:Nat} {u:Value} (h:Ux w n0 ds es (.slice (some ⟨g,0,none⟩) ds.length cap)) (hk:k < ds.length) (hc:c < 19) (hu:(Z5 (ds.getD k Qc) (es.getD k X0))[c]? =some u):w.cell? ⟨g,k * 19+c,none⟩=some u:=by
 have hb:k * 19+c < ds.length * 19:=by have:(k+1) * 19<=ds.length * 19:=Nat.mul_le_mul_right _ hk;omega
 have:=h.row.cellAt (k * 19+c) hb;rw [Bl h.len hk hc,hu] at this;exact this
theorem Ux.form {n0:Nat} {ds:List Zv} {es:List DX} (h:Ux w n0 ds es v) (hd:0 < ds.length):∃ g cap,v=.slice (some ⟨g,0,none⟩) ds.length cap/\g < w.heap.size:=by
 obtain ⟨g,cap,e,_⟩:=Yd h.row hd;exact ⟨g,cap,e,Ys h.row (by rw [e];rfl)⟩
end
section
variable {w w0 w':World} {v:Value} {c0 c1 c2 c3:Int} {start:List Nat} {progs:List (Int×List Xf)} {cs:List (List (Int×List Nat))}
theorem Wx (hk:P3 c0 c1 c2 c3 start.length progs.length cs) (hpl:∀ p∈progs,p.2.length<=5864062014635) (h:Ka w v c0 c1 c2 c3 start progs cs):
  Calls Tryz.prog 8 #[v] w λ e w'=>∃ x w0,e=.returned (.tuple #[.pointer (some ⟨x,0,none⟩),.bool true])/\Ze [] w w'/\Ze [] w w0/\Xy w0 x (U1 c0 c1 c2 c3 start progs cs) [] (U1 c0 c1 c2 c3 start progs cs) w':=by
 have hz:Yr c0 c1 c2 c3 start.length progs.length cs=0:=by
  refine Jg hk.cf hk.s hk.p hk.t hk.l (λ i j hi hj=>?_);have:=hk.c i j hi hj;unfold Y5;simp only [Bool.or_eq_false_iff,decide_eq_false_iff_not];omega
 have HN:=Zh_ (λ (wx:World) (m:Ze [] w wx)=>Dy hk hpl (h.mod m));obtain ⟨vs,vp,vt,rfl,hS,hP,hT⟩:=h.f;obtain ⟨ap,cp,hvp,_⟩:=hP;obtain ⟨sa,ca,hvs,_⟩:=hS;have hW:=λ (wx:World) (m:Ze [] w wx)=>Dl (c0:=c0) (c1:=c1) (c2:=c2) (c3:=c3) (sa:=sa) (ns:=start.length) (cs':=ca) (ap:=ap) (np:=progs.length) (cp:=cp) (hT.mod m).rd;rw [hz] at hW;obtain ⟨at',ct,hvt,_⟩:=hT;subst hvp hvs hvt;have HW:=Zh_ hW;clear hW hz h hk hpl;go_enter func8,ntmps8;go_wp2_with fail;refine Calls.mono (HN.out _ ((Zr_ _ _).alloc _)) ?_;rintro e w1 ⟨x,rfl,G⟩;have M1:=Zh_ (((Zr_ _ w).alloc (.cells #[.int .i64 c0,.int .i64 c1,.int .i64 c2,.int .i64 c3,.slice sa start.length ca,.slice ap progs.length cp,.slice at' cs.length ct] 28)).trans G.fr);have B1:=G.fr.at (Zc w _) (by simp);have HG:=Zh_ G;have b0:=Za (i:=0) B1 rfl;have b1:=Za (i:=1) B1 rfl;have b2:=Za (i:=2) B1 rfl;have b3:=Za (i:=3) B1 rfl;have b4:=Za (i:=4) B1 rfl;have b5:=Za (i:=5) B1 rfl;have b6:=Za (i:=6) B1 rfl;clear G B1;go_wp2_with fail;refine Calls.mono (HW.out _ M1.out) ?_;rintro e w2 ⟨rfl,m2⟩;have M2:=Zh_ (M1.out.trans m2);have HG2:=Zh_ (HG.out.mod m2);clear b0 b1 b2 b3 b4 b5 b6 m2;go_wp2;go_ret2;exact ⟨x,_,rfl,M2.out,(Zr_ _ _).alloc _,HG2.out⟩
theorem Lz (hr:Yr c0 c1 c2 c3 start.length progs.length cs≠0) (h:Ka w v c0 c1 c2 c3 start progs cs):
  Calls Tryz.prog 8 #[v] w λ e w'=>e=.returned (.tuple #[.pointer none,.bool true])/\Ze [] w w':=by
 obtain ⟨vs,vp,vt,rfl,hS,hP,hT⟩:=h.f;obtain ⟨ap,cp,hvp,_⟩:=hP;obtain ⟨sa,ca,hvs,_⟩:=hS;have hW:=λ (wx:World) (m:Ze [] w wx)=>Dl (c0:=c0) (c1:=c1) (c2:=c2) (c3:=c3) (sa:=sa) (ns:=start.length) (cs':=ca) (ap:=ap) (np:=progs.length) (cp:=cp) (hT.mod m).rd;obtain ⟨at',ct,hvt,_⟩:=id hT;subst hvp hvs hvt;have hN:=λ (wx:World) (m:Ze [] w wx)=>Wf (c0:=c0) (c1:=c1) (c2:=c2) (c3:=c3) (a1:=sa) (n1:=start.length) (k1:=ca) (a2:=ap) (n2:=progs.length) (k2:=cp) hr (hT.mod m);obtain ⟨rv,hrv⟩:∃ n,n=Yr c0 c1 c2 c3 start.length progs.length cs:=⟨_,rfl⟩;have hr2:rv=1\/rv=160:=by
  have:=Gr c0 c1 c2 c3 start.length progs.length cs;omega
 rw [<-hrv] at hW hN;have HW:=Zh_ hW;have HN:=Zh_ hN;clear hW hN h hr hrv hT;rcases hr2 with rfl|rfl
 ·go_enter func8,ntmps8;go_wp2_with fail;refine Calls.mono (HN.out _ ((Zr_ _ _).alloc _)) ?_;rintro e w1 ⟨rfl,m1⟩;have M1:=Zh_ (((Zr_ _ w).alloc (.cells #[.int .i64 c0,.int .i64 c1,.int .i64 c2,.int .i64 c3,.slice sa start.length ca,.slice ap progs.length cp,.slice at' cs.length ct] 28)).trans m1);have B1:=m1.at (Zc w _) (by simp);have b0:=Za (i:=0) B1 rfl;have b1:=Za (i:=1) B1 rfl;have b2:=Za (i:=2) B1 rfl;have b3:=Za (i:=3) B1 rfl;have b4:=Za (i:=4) B1 rfl;have b5:=Za (i:=5) B1 rfl;have b6:=Za (i:=6) B1 rfl;clear m1 B1;go_wp2_with fail;refine Calls.mono (HW.out _ M1.out) ?_;rintro e w2 ⟨rfl,m2⟩;have M2:=Zh_ (M1.out.trans m2);clear b0 b1 b2 b3 b4 b5 b6 m2;go_wp2;go_ret2;exact ⟨rfl,M2.out⟩
 ·go_enter func8,ntmps8;go_wp2_with fail;refine Calls.mono (HN.out _ ((Zr_ _ _).alloc _)) ?_;rintro e w1 ⟨rfl,m1⟩;have M1:=Zh_ (((Zr_ _ w).alloc (.cells #[.int .i64 c0,.int .i64 c1,.int .i64 c2,.int .i64 c3,.slice sa start.length ca,.slice ap progs.length cp,.slice at' cs.length ct] 28)).trans m1);have B1:=m1.at (Zc w _) (by simp);have b0:=Za (i:=0) B1 rfl;have b1:=Za (i:=1) B1 rfl;have b2:=Za (i:=2) B1 rfl;have b3:=Za (i:=3) B1 rfl;have b4:=Za (i:=4) B1 rfl;have b5:=Za (i:=5) B1 rfl;have b6:=Za (i:=6) B1 rfl;clear m1 B1;go_wp2_with fail;refine Calls.mono (HW.out _ M1.out) ?_;rintro e w2 ⟨rfl,m2⟩;have M2:=Zh_ (M1.out.trans m2);clear b0 b1 b2 b3 b4 b5 b6 m2;go_wp2;go_ret2;exact ⟨rfl,M2.out⟩
end
section
variable {w w0 w':World} {v:Value}
theorem Ms (k:Nat) (l:List Nat):Da (k+1) l=Da k l++l:=by
 unfold Da;rw [List.replicate_succ',List.flatten_append];simp
theorem Lq {s:Zq} (h:R4 s=true):s.over=true/\s.state=[4619567317775286272,4619567317775286272]/\s.view.length=3/\(s.view.getD 0 Qc).out=[0,0]/\(s.view.getD 0 Qc).mark=0/\(s.view.getD 1 Qc).number=1/\(s.view.getD 2 Qc).number=2:=by
 unfold R4 at h;simp only [Bool.and_eq_true,beq_iff_eq] at h;obtain ⟨⟨⟨⟨⟨⟨h1,h2⟩,h3⟩,h4⟩,h5⟩,h6⟩,h7⟩:=h;exact ⟨h1,h2,h3,h4,h5,h6,h7⟩
theorem live_c:Calls Tryz.prog 7 #[] w λ e w'=>e=.returned (.bool true)/\Ze [] w w':=by
 go_enter func7,ntmps7;go_wp2_with fail;refine pair_c.mono ?_;rintro e w1 ⟨v,rfl,S,m1⟩;have HM1:=Zh_ m1;go_wp2_with fail;refine (Dy Lp live_len S).mono ?_;rintro e w2 ⟨x,rfl,G⟩;have HG:=Zh_ (show Xy w1 x Jv [] Jv w2 from G);clear G m1 S;go_wp2_with fail;have A1:=Zc w2 (.cells #[.int .i64 1,.int .i64 1,.int .i64 1,.int .i64 1,.int .i64 1,.int .i64 1] 3);have I1:=Pq (l:=[1,1,1,1,1,1]) A1;refine ((HG.out.mod ((Zr_ _ _).alloc _)).run_c I1 (by decide) (by decide)).mono ?_;rintro e w3 ⟨n3,s3,rfl,G3⟩;have HG3:=Zh_ (show Xy w1 x Jv ([1,1,1,1,1,1]++Da 0 [0,2,0]) s3 w3 from G3);clear A1 I1 G3 HG;go_wp2_with fail
 go_loopw [3] (λ i wx=>∃ k:Nat,k<=60/\i=.int .i64 k/\∃ s,Xy w1 x Jv ([1,1,1,1,1,1]++Da k [0,2,0]) s wx) (λ i _=>60 - (intOf i).toNat)
 case atStart=>exact ⟨0,by omega,rfl,s3,HG3.out⟩
 case round=>
  obtain ⟨k,hk,rfl,s,G⟩:=hrel;have HG:=Zh_ G;clear G HG3
  by_cases hlt:k < 60
  ·have d4:decide ((k:Int) < 60)=true:=decide_eq_true (by omega);go_wp2_with fail;have A1:=Zc wr (.cells #[.int .i64 0,.int .i64 2,.int .i64 0] 3);have I1:=Pq (l:=[0,2,0]) A1;refine ((HG.out.mod ((Zr_ _ _).alloc _)).run_c I1 (by decide) (by
    have:(Da k [0,2,0]).length=3 * k:=by unfold Da;simp;omega
    simp [this];omega)).mono ?_;rintro e w4 ⟨n4,s4,rfl,G4⟩
   have HG4:=Zh_ (show Xy w1 x Jv ([1,1,1,1,1,1]++Da (k+1) [0,2,0]) s4 w4 by
    rw [Ms k,<-List.append_assoc];exact G4)
   clear A1 I1 G4 HG;go_wp2;go_roundw
   case rel=>exact ⟨k+1,by omega,by go_num,s4,HG4.out⟩
   case measure=>simp [intOf];omega
  ·have d4:decide ((k:Int) < 60)=false:=decide_eq_false (by omega);obtain rfl:k=60:=by omega
   have HG0:=Zh_ (show Xy w1 x Jv (([1,1,1,1,1,1]++Da 60 [0,2,0])++Da 0 [1,2]) s wr by
    have e:Da 0 [1,2]=[]:=rfl;rw [e,List.append_nil];exact HG.out)
   rw [show ((60:Nat):Int)=60 from rfl] at d4 ⊢
   clear HG hlt;generalize wr=w5 at *
   go_wp2_with fail;clear d4
   go_loopw [4] (λ i wx=>∃ k:Nat,k<=60/\i=.int .i64 k/\∃ s,Xy w1 x Jv (([1,1,1,1,1,1]++Da 60 [0,2,0])++Da k [1,2]) s wx) (λ i _=>60 - (intOf i).toNat)
   case atStart=>exact ⟨0,by omega,rfl,s,HG0.out⟩
   case round=>
    obtain ⟨k,hk,rfl,s,G⟩:=hrel;have HG:=Zh_ G;clear G HG0
    by_cases hlt:k < 60
    ·have d4:decide ((k:Int) < 60)=true:=decide_eq_true (by omega);go_wp2_with fail;have A1:=Zc wr (.cells #[.int .i64 1,.int .i64 2] 3);have I1:=Pq (l:=[1,2]) A1;refine ((HG.out.mod ((Zr_ _ _).alloc _)).run_c I1 (by decide) (by
      have e1:(Da 60 [0,2,0]).length=180:=by decide+kernel
      have:(Da k [1,2]).length=2 * k:=by unfold Da;simp;omega
      simp [this,e1];omega)).mono ?_;rintro e w4 ⟨n4,s4,rfl,G4⟩
     have HG4:=Zh_ (show Xy w1 x Jv (([1,1,1,1,1,1]++Da 60 [0,2,0])++Da (k+1) [1,2]) s4 w4 by
      rw [Ms k,<-List.append_assoc];exact G4)
     clear A1 I1 G4 HG;go_wp2;go_roundw
     case rel=>exact ⟨k+1,by omega,by go_num,s4,HG4.out⟩
     case measure=>simp [intOf];omega
    ·have d4:decide ((k:Int) < 60)=false:=decide_eq_false (by omega);obtain rfl:k=60:=by omega
     have hL:=Lq (Wm (show Vv Jv liveL s from HG.out.run));obtain ⟨f1,f2,f3,f4,f5,f6,f7⟩:=hL;have F1:=Zh_ f1;have F2:=Zh_ f2;have F3:=Zh_ f3;have F4:=Zh_ f4;have F5:=Zh_ f5;have F6:=Zh_ f6;have F7:=Zh_ f7;clear f1 f2 f3 f4 f5 f6 f7 hlt d4;go_wp2_with fail;have hlen:(([1,1,1,1,1,1]++Da 60 [0,2,0])++Da 60 [1,2]).length < 1000000000:=by decide+kernel
     refine (HG.out.deeds_c hlen).mono ?_;rintro e w6 ⟨u,es,rfl,O,m6⟩;obtain ⟨g,cap,hu,hgl⟩:=O.form (by rw [F3.out];omega);subst hu;have O':=O;have c9:=O'.cell (k:=0) (c:=9) (by rw [F3.out];omega) (by omega) rfl;have c5:=O'.cell (k:=0) (c:=5) (by rw [F3.out];omega) (by omega) rfl;have c25:=O'.cell (k:=1) (c:=6) (by rw [F3.out];omega) (by omega) rfl;have c44:=O'.cell (k:=2) (c:=6) (by rw [F3.out];omega) (by omega) rfl;have ro:=(O.rows 0 (by rw [F3.out];omega)).2.2.2;rw [F4.out] at ro;rw [F5.out] at c5;rw [F6.out] at c25;rw [F7.out] at c44;rw [F3.out];obtain ⟨va,hva⟩:∃ z,z=(es.getD 0 X0).vo:=⟨_,rfl⟩;rw [<-hva] at c9 ro;have HC:=Zh_ (show ∀ wx,Ze [] w6 wx->wx.cell? ⟨g,9,none⟩=some va/\wx.cell? ⟨g,5,none⟩=some (.int .i64 0)/\wx.cell? ⟨g,25,none⟩=some (.int .i64 1)/\wx.cell? ⟨g,44,none⟩=some (.int .i64 2) from λ wx m=>⟨Zy m hgl (by simp) c9,Zy m hgl (by simp) c5,Zy m hgl (by simp) c25,Zy m hgl (by simp) c44⟩);have HRO:=Zh_ ro;have HG6:=Zh_ (HG.out.mod m6);clear HG O O' c9 c5 c25 c44 ro m6 hva;go_wp2_with fail;refine HG6.out.over_c.mono ?_;rintro e w7 ⟨rfl,m7⟩;rw [F1.out];have HG7:=Zh_ (HG6.out.mod m7);have M7:=Zh_ m7;clear m7;go_wp2_with fail;refine HG7.out.state_c.mono ?_;rintro e w8 ⟨vs,rfl,S8,m8⟩;rw [F2.out] at S8;have HS8:=Zh_ S8;have M8:=Zh_ (M7.out.trans m8);have HG8:=Zh_ (HG7.out.mod m8);clear S8 m8;go_wp2_with fail;have ow:(w8.alloc (.cells #[.float .f64 4619567317775286272,.float .f64 4619567317775286272] 51)).ownsRow 0 51 1 (.slice (some ⟨w8.heap.size,0,none⟩) 2 2) 2 ([4619567317775286272,4619567317775286272].map (Value.float .f64)):=Pi (n:=2) (Zc _ _) rfl (by decide) (Nat.zero_le _);refine (R9 (l:=[4619567317775286272,4619567317775286272]) (Ye HS8.out.1 ((Zr_ _ _).alloc _)) ow (by decide)).mono ?_;rintro e w9 ⟨rfl,m9⟩;have M9:=Zh_ (M8.out.trans (((Zr_ _ _).alloc _).trans m9));have HG9:=Zh_ (HG8.out.mod (((Zr_ _ _).alloc _).trans m9));clear ow m9;obtain ⟨d9,d5,d25,d44⟩:=HC.out w9 M9.out;have HRV:=Zh_ (Ye HRO.out.1 M9.out);go_wp2_with fail;have ow:(w9.alloc (.cells #[.float .f64 0,.float .f64 0] 51)).ownsRow 0 51 1 (.slice (some ⟨w9.heap.size,0,none⟩) 2 2) 2 (([0,0]:List Nat).map (Value.float .f64)):=Pi (n:=2) (Zc _ _) rfl (by decide) (Nat.zero_le _);refine (R9 (l:=[0,0]) (Ye HRV.out ((Zr_ _ _).alloc _)) ow (by decide)).mono ?_;rintro e w10 ⟨rfl,m10⟩;have M10:=Zh_ (M9.out.trans (((Zr_ _ _).alloc _).trans m10));have HG10:=Zh_ (HG9.out.mod (((Zr_ _ _).alloc _).trans m10));clear ow m10 d9 d5 d25 d44;obtain ⟨d9,d5,d25,d44⟩:=HC.out w10 M10.out;go_wp2;go_ret;exact ⟨rfl,HM1.out.trans HG10.out.fr⟩
end
section
variable {w w0 w':World} {v:Value} {c0 c1 c2 c3:Int} {start:List Nat} {progs:List (Int×List Xf)} {cs:List (List (Int×List Nat))}
theorem Ux.fetch {n0:Nat} {ds:List Zv} {es:List DX} {av:Option Addr} {cap k:Nat} (h:Ux w n0 ds es (.slice av ds.length cap)) (hk:k < ds.length):
  (∃ g,av=some ⟨g,0,none⟩/\g < w.heap.size/\∀ (j:Nat) (v:Value),(Z5 (Sc ds k) (es.getD k X0))[j]? =some v->w.cell? ((⟨g,k * 19,none⟩:Addr).add j)=some v)/\∀ u∈Z5 (Sc ds k) (es.getD k X0),u.oneCell'=true:=by
 obtain ⟨g,c,e,hg⟩:=h.form (by omega);simp only [Value.slice.injEq,true_and] at e;obtain ⟨rfl,rfl⟩:=e;refine ⟨⟨g,rfl,hg,λ j v hv=>?_⟩,?_⟩
 ·rw [Br];have hj:j < 19:=by
   have:j < (Z5 (Sc ds k) (es.getD k X0)).length:=by
    rcases Nat.lt_or_ge j (Z5 (Sc ds k) (es.getD k X0)).length with h'|h'
    ·exact h'
    ·rw [List.getElem?_eq_none h'] at hv;cases hv
   exact this
  exact h.cell hk hj hv
 ·have r:=h.rows k hk;have:=Vk (Sc ds k) (es.getD k X0) (Yo r.1.1) (Yo r.2.1.1) (Yo r.2.2.1.1) (Yo r.2.2.2.1);exact this
end
end Go.Proofs.YtkhonmhnchdpkaaGreat
