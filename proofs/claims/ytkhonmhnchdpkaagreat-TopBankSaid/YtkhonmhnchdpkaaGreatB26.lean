/- A part of the proof; no condition. -/
import Derived.Test.YtkhonmhnchdpkaaGreatB25
import Derived.ProofKit
import Derived.SizedLaws
import Derived.Deep.Slices
set_option maxRecDepth 100000
set_option maxHeartbeats 40000000
namespace Go.Proofs.YtkhonmhnchdpkaaGreat
open Go.RowKit _root_.Go.Proofs.Tryz
open Go renaming World→W
open Value renaming int→U,pointer→E,slice→L,float→Z
open IntKind renaming i64→Y
open FloatKind renaming f64→V
open Obj renaming cells→X
open Option renaming some→I,none→O
open Ending renaming returned→R_
open _root_.Go.Proofs.Tryz renaming prog→N
section
def W8 (l:List Zu) (i:Nat):Zu:=l.getD i Qi
end
section
variable {w w0 w':W}
theorem Qn.sinv {e0 s:Zn} {ts:List Nat} (h:Qn e0 ts s) (k:Yi e0) (hs:Qa e0) (hl:e0.ym) (ht:∀ t∈ts,t < e0.qi.length) (hn:e0.steps+ts.length < 1000000000):Qa s/\s.ym:=by
 induction h with
 |nil s=>exact ⟨hs,hl⟩
 |@cons s r t l v h ih=>
  have q:=k.step (ht t (by simp)) v;have e:=(Kb s t v).1;simp only [List.length_cons] at hn;exact ih q.1 (hs.step k (ht t (by simp)) (by omega) v) (hl.step k (ht t (by simp)) v) (λ u hu=>by rw [q.2];exact ht u (by simp [hu])) (by omega)
structure Xx (w0:W) (x:Nat) (e0:Zn) (ts:List Nat) (s:Zn) (w:W):Prop where
 run:Qn e0 ts s
 zq:∃ lab P,P.x=x/\Ys w0 w lab P s
 ok:Yi e0
 si:Qa e0
 ln:e0.ym
 lt:∀ t∈ts,t < e0.qi.length
 z:e0.steps=0
variable {x:Nat} {e0 s:Zn} {ts:List Nat} {l:List Int} {v:Value}
theorem Xx.mod (h:Xx w0 x e0 ts s w) (m:Ze [] w w'):Xx w0 x e0 ts s w':=by
 obtain ⟨h1,⟨lab,P,e,h2⟩,h3,h4,h5,h6,h7⟩:=h;exact ⟨h1,⟨lab,P,e,h2.quiet m Z3⟩,h3,h4,h5,h6,h7⟩
theorem Xx.gf (h:Xx w0 x e0 ts s w):Yi s/\s.qi.length=e0.qi.length:=h.run.ok h.ok h.lt
theorem Xx.siS (h:Xx w0 x e0 ts s w) (hn:ts.length < 1000000000):Qa s/\s.ym:=h.run.sinv h.ok h.si h.ln h.lt (by rw [h.z];omega)
theorem Xx.fr (h:Xx w0 x e0 ts s w):Ze [] w0 w:=by
 obtain ⟨lab,P,e,h2⟩:=h.zq;exact h2.fr
theorem Xx.vg (h:Xx w0 x e0 ts s w) (hv:Bf w v l) (hl:l.length<=65536) (hn:ts.length+l.length < 1000000000):
  Calls N 9 #[E (I ⟨x,0,O⟩),v] w λ e w'=>∃ n s',e=R_ (.tuple #[U Y n,U Y 0])/\Xx w0 x e0 (ts++Vm e0.qi.length l) s' w':=by
 obtain ⟨k,hk⟩:=h.gf;obtain ⟨lab,P,e,h2⟩:=id h.zq;have hst:=h.run.steps;have C:=_root_.Go.Proofs.YtkhonmhnchdpkaaGreat.vg h2 k hv hl (by rw [h.z] at hst;omega);unfold Xy at C;rw [e] at C;refine C.mono ?_;rintro e' w2 ⟨n,s',rfl,R,lab2,P2,q1,q2,q3⟩;rw [hk] at R;refine ⟨n,s',J,h.run.trans R,⟨lab2,P2,q2.x.trans e,q1⟩,h.ok,h.si,h.ln,?_,h.z⟩;intro t ht;rcases List.mem_append.1 ht with ht|ht
 ·exact h.lt t ht
 ·exact N5 (by rw [<-hk];exact h2.n1) l t ht
theorem Xx.km (h:Xx w0 x e0 ts s w):Calls N 20 #[E (I ⟨x,0,O⟩)] w λ e w'=>e=R_ (.bool s.qf)/\Ze [] w w':=by
 obtain ⟨lab,P,e,h2⟩:=id h.zq;have C:=_root_.Go.Proofs.YtkhonmhnchdpkaaGreat.km h2 h.gf.1.yz;unfold Xy at C;rw [e] at C;exact C
theorem Xx.vf (h:Xx w0 x e0 ts s w):Calls N 14 #[E (I ⟨x,0,O⟩)] w (StateP w s.state):=by
 obtain ⟨lab,P,e,h2⟩:=id h.zq;have C:=_root_.Go.Proofs.YtkhonmhnchdpkaaGreat.vf h2 h.gf.1;unfold Xy at C;rw [e] at C;exact C
theorem Xx.vu (h:Xx w0 x e0 ts s w) (hn:ts.length < 1000000000):Calls N 10 #[E (I ⟨x,0,O⟩)] w (DeedsP w s.view):=by
 obtain ⟨lab,P,e,h2⟩:=id h.zq;obtain ⟨s1,s2⟩:=h.siS hn;have hst:=h.run.steps;have C:=_root_.Go.Proofs.YtkhonmhnchdpkaaGreat.vu h2 h.gf.1 s2 (by have:=h.gf.1.st;rw [h.z] at hst;omega);unfold Xy at C;rw [e] at C;exact C
theorem Te {c0 c1 c2 c3:Int} {start:List Nat} {progs:List (Int×List Xg)} {cs:List (List (Int×List Nat))} (hk:Tm c0 c1 c2 c3 start.length progs.length cs) (hpl:∀ p∈progs,p.2.length<=5864062014635) (h:SetRs w v c0 c1 c2 c3 start progs cs):
  Calls N 17 #[v] w λ e w'=>∃ x,e=R_ (.tuple #[E (I ⟨x,0,O⟩),U Y 0])/\Xx w x (Vt c0 c1 c2 c3 start progs cs) [] (Vt c0 c1 c2 c3 start progs cs) w':=by
 obtain ⟨vs,vp,vt,rfl,hS,hP,hT⟩:=h.f;refine (new_c hk hpl hT hP hS).mono ?_;rintro e w' ⟨x,a,b,r,vp',vt',kts,vcs,rfl,K,m⟩;obtain ⟨lab,P,e,H⟩:=K.eng hk.cf m;exact ⟨x,J,.nil _,⟨lab,P,e,H⟩,T5 hk hpl,Tc hk.cf,Lm,λ t ht=>(by simp at ht),J⟩
theorem N2 {g:Nat} (h:w.heap[g]? =I (.cells ((l.map (Value.int .i64)).toArray) 3 (0,0))):Bf w (L (I ⟨g,0,O⟩) l.length l.length) l:=by
 refine ⟨_,_,J,.inr ⟨g,0,J,B9 h,λ i hi=>?_⟩⟩;rw [Nat.zero_add];refine Za h ?_;simp [hi]
theorem S4:Tm 2 3 30 2 ([]:List Nat).length Pq.length Wz:=Ol (by decide+kernel)
theorem live_len:∀ p∈Pq,p.2.length<=5864062014635:=by
 intro p hp;simp only [Pq,List.mem_cons,List.not_mem_nil,or_false] at hp;rcases hp with rfl|rfl <;> decide
theorem Jp.cell {n0:Nat} {ds:List Zu} {es:List DX} {g c cap k:Nat} {u:Value} (h:Jp w n0 ds es (L (I ⟨g,0,O⟩) ds.length cap)) (hk:k < ds.length) (hc:c < 19) (hu:(Z9 (ds.getD k Qi) (es.getD k Qm))[c]? =I u):w.cell? ⟨g,k * 19+c,O⟩=I u:=by
 have hb:k * 19+c < ds.length * 19:=by have:(k+1) * 19<=ds.length * 19:=Nat.mul_le_mul_right _ hk;omega
 have:=h.row.cellAt (k * 19+c) hb;rw [Hb h.len hk hc,hu] at this;exact this
theorem Jp.form {n0:Nat} {ds:List Zu} {es:List DX} (h:Jp w n0 ds es v) (hd:0 < ds.length):∃ g cap,v=L (I ⟨g,0,O⟩) ds.length cap/\g < w.heap.size:=by
 obtain ⟨g,cap,e,_⟩:=Ya h.row hd;exact ⟨g,cap,e,Yr h.row (by rw [e];rfl)⟩
end
section
open Go.ChangeShapes Go.WideShapes Go.ChangeAt Go.RowKit
section
variable {H:Type} {enc:TypeId×Value->H} {w:W} {fuel:Nat} {cs:List Value} {x:DataW H×List MemPlace}
def Sz (t:TypeId) (d:DataW H):Prop:=∀ n∈d.weights N t,n<=reachBytes
theorem Pn {P:Program} {e:TypeId} {d:DataW H} {n:Nat} (hn:n∈d.weights P e):∀ {l:List (DataW H)},d∈l->n∈DataW.weightsAll P e l
 |[],h=>by cases h
 |y :: r,h=>by
  simp only [DataW.weightsAll,List.mem_append];rcases List.mem_cons.1 h with rfl|h
  ·exact .inl hn
  ·exact .inr (Pn hn h)
theorem sz_elem {t e:TypeId} {es sp:List (DataW H)} {d:DataW H} (h:Sz t (.slice es sp)) (hu:N.underlying t=I (.slice e)) (hd:d∈es):Sz e d:=by
 intro n hn;refine h n ?_;simp only [DataW.weights,hu,List.mem_cons,List.mem_append];exact .inr (.inl (Pn hn hd))
theorem sz_len {t e:TypeId} {es sp:List (DataW H)} (h:Sz t (.slice es sp)) (hu:N.underlying t=I (.slice e)):(es.length+sp.length) * N.bytesOf e<=reachBytes:=by
 refine h _ ?_;simp [DataW.weights,hu]
theorem J1 {base:Nat} {a:Addr} {k n:Nat} {cs:List Value} (h:w.cells? base (a.add k) n=I cs) (j:Nat) (hj:j < n):w.cell? (a.add (k+j))=cs[j]?:=by
 have:=(World.cells?_some h).2.2 j hj;rw [<-this];congr 1
 unfold Addr.add
 by_cases hk:k=0
 ·subst hk;simp
 ·by_cases hj0:j=0
  ·subst hj0;simp [hk]
  ·simp [hk,hj0,Nat.add_assoc]
theorem J2 {a:Addr} {k:Nat} {v:Value} (h:w.cell? (a.add k)=I v) (hk:∃ u,w.cell? (a.add 0)=I u):a=⟨a.block,a.off,O⟩/\a.block < w.heap.size/\w.cell? ⟨a.block,a.off+k,O⟩=I v:=by
 obtain ⟨u,hu⟩:=hk;have h0:a.add 0=a:=by unfold Addr.add;simp
 rw [h0] at hu;have hs:=World.cell?_spot hu;obtain ⟨b,o,sp⟩:=a;simp only at hs;subst hs;refine ⟨J,World.block_lt_of_cell? w _ hu,?_⟩;rw [Uz] at h;exact h
theorem Mc:N.cellsOf 3=1:=by kernel_rfl
theorem Di {t t':TypeId} {fs:Array Field} {f:Field} {i o k:Nat} (hu:N.underlying t=I (.struct fs)) (h:DataW.trod enc N w 0 (λ _=>true) true fuel t cs=I x) (hf:fs[i]? =I f) (ht:f.type=t') (ho:f.offset=o) (hk:N.cellsOf t'=k):
  ∃ n y parts,x.1=.agg parts/\parts[i]? =I y.1/\DataW.trod enc N w 0 (λ _=>true) true n t' ((cs.drop o).take k)=I y:=by
 subst ht ho hk;obtain ⟨xs,n,_,rfl,_,hlen,hg⟩:=DataW.trod_struct hu h;have h1:=hg i f hf;have hi:i < xs.length:=by rw [hlen];exact (Array.getElem?_eq_some_iff.1 hf).1
 rw [List.getElem?_eq_getElem hi] at h1;exact ⟨n,xs[i],xs.map (·.1),J,by simp [hi],h1⟩
theorem R1 {t:TypeId} {fs:Array Field} (hu:N.underlying t=I (.struct fs)) (h:DataW.trod enc N w 0 (λ _=>true) true fuel t cs=I x):cs.length=N.cellsOf t:=by
 obtain ⟨xs,n,_,rfl,hl,_,_⟩:=DataW.trod_struct hu h;exact hl
instance:Inhabited Xg:=⟨Vw⟩
theorem Lj {α:Type} [Inhabited α] (d0:α) {t e:TypeId} (ht:N.underlying t=I (.slice e)) (h:DataW.trod enc N w 0 (λ _=>true) true fuel t cs=I x) (hs:Sz t x.1)
  (Q:α->List Value->Prop) (hQ:∀ (n:Nat) (c:List Value) (y:DataW H×List MemPlace),DataW.trod enc N w 0 (λ _=>true) true n e c=I y->Sz e y.1->∃ a,Q a c):
  ∃ a cap,∃ l:List α,cs=[.slice a l.length cap]/\(a=O->l=[]/\cap=0)/\(l.length * N.bytesOf e<=reachBytes)/\∀ i,i < l.length->∃ ad c,a=I ad/\Q (l.getD i d0) c/\w.cells? 0 (ad.add (i * N.cellsOf e)) (N.cellsOf e)=I c:=by
 rcases Deep.open_slice ht h with ⟨rfl,rfl⟩|⟨ad,len,cap,m,n,D,Pl,rfl,_,hl,hm,hmm,rfl,hcell⟩
 ·exact ⟨O,0,[],J,λ _=>⟨J,J⟩,by simp,λ i hi=>absurd hi (by simp)⟩
 ·simp only [if_true] at hmm;subst hmm;obtain ⟨qW,hX⟩:=Deep.choose_lt (α:=α) (n:=len) (p:=λ i a=>∃ c,Q a c/\w.cells? 0 (ad.add (i * N.cellsOf e)) (N.cellsOf e)=I c) (λ i hi=>by
   obtain ⟨c,h1,h2⟩:=hcell i (by omega);obtain ⟨a,ha⟩:=hQ n c _ h2 (sz_elem hs ht (List.mem_map.2 ⟨i,by simpa using hi,rfl⟩));exact ⟨a,c,ha,h1⟩)
  refine ⟨I ad,m,(List.range len).map qW,by simp,(λ hn=>by cases hn),?_,λ i hi=>?_⟩
  ·have:=sz_len hs ht;simp only [List.length_map,List.length_range] at this ⊢
   exact Nat.le_trans (Nat.mul_le_mul_right _ (by omega)) this
  ·have hi':i < len:=by simpa using hi
   obtain ⟨c,q,hc⟩:=hX i hi';refine ⟨ad,c,J,?_,hc⟩;simpa [hi'] using q
theorem open_script34 {v:Value} {d:DataW H} {p:List MemPlace} (hv:Value.okWide N w .any 0 34 v) (h:DataW.Trod enc N w 0 (λ _=>true) true 34 v d p) (hs:Sz 34 d):∃ l,Bf w v l:=by
 obtain ⟨a,len,cap,rfl⟩:=okWide_slice underlying34 hv;obtain ⟨fuel,hf⟩:=h;obtain ⟨a',cap',l,e,hn,hb,hc⟩:=Lj 0 underlying34 hf hs (λ (b:Int) c=>c=[U Y b]) (λ n c y hy _=>by
  obtain ⟨m,e,-⟩:=DataW.trod_int underlying3 hy;exact ⟨m,e⟩)
 rw [Mc] at hc;have e':Value.slice a len cap=.slice a' l.length cap':=by simpa [Value.cells] using e
 rw [e'];have C:∀ i,i < l.length->∃ ad,a'=I ad/\w.cell? (ad.add i)=I (U Y (l.getD i 0)):=by
  intro i hi;obtain ⟨ad,c,e,rfl,h3⟩:=hc i hi;have:=J1 h3 0 (by omega);rw [Nat.mul_one,Nat.add_zero] at this;exact ⟨ad,e,this⟩
 refine ⟨l,a',cap',J,?_⟩
 by_cases h0:l.length=0
 ·exact .inl (List.eq_nil_of_length_eq_zero h0)
 ·obtain ⟨ad0,rfl,h10⟩:=C 0 (by omega);right;obtain ⟨e1,e2,_⟩:=J2 h10 ⟨_,h10⟩;refine ⟨ad0.block,ad0.off,by rw [<-e1],e2,λ i hi=>?_⟩;obtain ⟨ad,e,h1⟩:=C i hi;obtain rfl:=Zo_ e;exact (J2 h1 ⟨_,h10⟩).2.2
end
end
section
variable {w w0 w':W} {v:Value} {c0 c1 c2 c3:Int} {start:List Nat} {progs:List (Int×List Xg)} {cs:List (List (Int×List Nat))}
end
section
variable {w w0 w':W} {v:Value}
theorem Ld (k:Nat) (l:List Nat):Ml (k+1) l=Ml k l++l:=by
 unfold Ml;rw [List.replicate_succ',List.flatten_append];simp
theorem S5 {s:Zn} (h:W0 s=true):s.qf=true/\s.state=[4619567317775286272,4619567317775286272]/\s.view.length=3/\(s.view.getD 0 Qi).out=[0,0]/\(s.view.getD 0 Qi).mark=0/\(s.view.getD 1 Qi).number=1/\(s.view.getD 2 Qi).number=2:=by
 unfold W0 at h;simp only [Bool.and_eq_true,beq_iff_eq] at h;obtain ⟨⟨⟨⟨⟨⟨h1,h2⟩,h3⟩,h4⟩,h5⟩,h6⟩,h7⟩:=h;exact ⟨h1,h2,h3,h4,h5,h6,h7⟩
theorem live_c:Calls N 7 #[] w λ e w'=>e=R_ (.bool true)/\Ze [] w w':=by
 go_enter func7,ntmps7;go_wp2_with fail;refine pair_c.mono ?_;rintro e w1 ⟨v,rfl,S,m1⟩;have HM1:=Zh_ m1;go_wp2_with fail;refine (Te S4 live_len S).mono ?_;rintro e w2 ⟨x,rfl,G⟩;have HG:=Zh_ (show Xx w1 x Ko [] Ko w2 from G);clear G m1 S;go_wp2_with fail;have A1:=Zc w2 (X #[U Y 1,U Y 1,U Y 1,U Y 1,U Y 1,U Y 1] 3);have I1:=N2 (l:=[1,1,1,1,1,1]) A1;refine ((HG.out.mod ((Zr_ _ _).alloc _)).vg I1 (by decide) (by decide)).mono ?_;rintro e w3 ⟨n3,s3,rfl,G3⟩;have HG3:=Zh_ (show Xx w1 x Ko ([1,1,1,1,1,1]++Ml 0 [0,2,0]) s3 w3 from G3);clear A1 I1 G3 HG;go_wp2_with fail
 go_loopw [3] (λ i wx=>∃ k:Nat,k<=60/\i=U Y k/\∃ s,Xx w1 x Ko ([1,1,1,1,1,1]++Ml k [0,2,0]) s wx) (λ i _=>60 - (intOf i).toNat)
 case atStart=>exact ⟨0,by omega,rfl,s3,HG3.out⟩
 case round=>
  obtain ⟨k,hk,rfl,s,G⟩:=hrel;have HG:=Zh_ G;clear G HG3
  by_cases hlt:k < 60
  ·have d4:decide ((k:Int) < 60)=true:=decide_eq_true (by omega);go_wp2_with fail;have A1:=Zc wr (X #[U Y 0,U Y 2,U Y 0] 3);have I1:=N2 (l:=[0,2,0]) A1;refine ((HG.out.mod ((Zr_ _ _).alloc _)).vg I1 (by decide) (by
    have:(Ml k [0,2,0]).length=3 * k:=by unfold Ml;simp;omega
    simp [this];omega)).mono ?_;rintro e w4 ⟨n4,s4,rfl,G4⟩
   have HG4:=Zh_ (show Xx w1 x Ko ([1,1,1,1,1,1]++Ml (k+1) [0,2,0]) s4 w4 by
    rw [Ld k,<-List.append_assoc];exact G4)
   clear A1 I1 G4 HG;go_wp2;go_roundw
   case rel=>exact ⟨k+1,by omega,by go_num,s4,HG4.out⟩
   case measure=>simp [intOf];omega
  ·have d4:decide ((k:Int) < 60)=false:=D9 (by omega);obtain rfl:k=60:=by omega
   have HG0:=Zh_ (show Xx w1 x Ko (([1,1,1,1,1,1]++Ml 60 [0,2,0])++Ml 0 [1,2]) s wr by
    have e:Ml 0 [1,2]=[]:=J;rw [e,List.append_nil];exact HG.out)
   rw [show ((60:Nat):Int)=60 from J] at d4 ⊢
   clear HG hlt;generalize wr=w5 at *
   go_wp2_with fail;clear d4
   go_loopw [4] (λ i wx=>∃ k:Nat,k<=60/\i=U Y k/\∃ s,Xx w1 x Ko (([1,1,1,1,1,1]++Ml 60 [0,2,0])++Ml k [1,2]) s wx) (λ i _=>60 - (intOf i).toNat)
   case atStart=>exact ⟨0,by omega,rfl,s,HG0.out⟩
   case round=>
    obtain ⟨k,hk,rfl,s,G⟩:=hrel;have HG:=Zh_ G;clear G HG0
    by_cases hlt:k < 60
    ·have d4:decide ((k:Int) < 60)=true:=decide_eq_true (by omega);go_wp2_with fail;have A1:=Zc wr (X #[U Y 1,U Y 2] 3);have I1:=N2 (l:=[1,2]) A1;refine ((HG.out.mod ((Zr_ _ _).alloc _)).vg I1 (by decide) (by
      have e1:(Ml 60 [0,2,0]).length=180:=by decide+kernel
      have:(Ml k [1,2]).length=2 * k:=by unfold Ml;simp;omega
      simp [this,e1];omega)).mono ?_;rintro e w4 ⟨n4,s4,rfl,G4⟩
     have HG4:=Zh_ (show Xx w1 x Ko (([1,1,1,1,1,1]++Ml 60 [0,2,0])++Ml (k+1) [1,2]) s4 w4 by
      rw [Ld k,<-List.append_assoc];exact G4)
     clear A1 I1 G4 HG;go_wp2;go_roundw
     case rel=>exact ⟨k+1,by omega,by go_num,s4,HG4.out⟩
     case measure=>simp [intOf];omega
    ·have d4:decide ((k:Int) < 60)=false:=D9 (by omega);obtain rfl:k=60:=by omega
     have hL:=S5 (Ig (show Qn Ko liveL s from HG.out.run));obtain ⟨f1,f2,f3,f4,f5,f6,f7⟩:=hL;have F1:=Zh_ f1;have F2:=Zh_ f2;have F3:=Zh_ f3;have F4:=Zh_ f4;have F5:=Zh_ f5;have F6:=Zh_ f6;have F7:=Zh_ f7;clear f1 f2 f3 f4 f5 f6 f7 hlt d4;go_wp2_with fail;have hlen:(([1,1,1,1,1,1]++Ml 60 [0,2,0])++Ml 60 [1,2]).length < 1000000000:=by decide+kernel
     refine (HG.out.vu hlen).mono ?_;rintro e w6 ⟨u,es,rfl,qK,m6⟩;obtain ⟨g,cap,hu,hgl⟩:=qK.form (by rw [F3.out];omega);subst hu;have qK':=qK;have c9:=qK'.cell (k:=0) (c:=9) (by rw [F3.out];omega) (by omega) J;have c5:=qK'.cell (k:=0) (c:=5) (by rw [F3.out];omega) (by omega) J;have c25:=qK'.cell (k:=1) (c:=6) (by rw [F3.out];omega) (by omega) J;have c44:=qK'.cell (k:=2) (c:=6) (by rw [F3.out];omega) (by omega) J;have ro:=(qK.rows 0 (by rw [F3.out];omega)).2.2.2;rw [F4.out] at ro;rw [F5.out] at c5;rw [F6.out] at c25;rw [F7.out] at c44;rw [F3.out];obtain ⟨va,hva⟩:∃ z,z=(es.getD 0 Qm).vo:=⟨_,J⟩;rw [<-hva] at c9 ro;have HC:=Zh_ (show ∀ wx,Ze [] w6 wx->wx.cell? ⟨g,9,O⟩=I va/\wx.cell? ⟨g,5,O⟩=I (U Y 0)/\wx.cell? ⟨g,25,O⟩=I (U Y 1)/\wx.cell? ⟨g,44,O⟩=I (U Y 2) from λ wx m=>⟨Z5 m hgl (by simp) c9,Z5 m hgl (by simp) c5,Z5 m hgl (by simp) c25,Z5 m hgl (by simp) c44⟩);have HRO:=Zh_ ro;have HG6:=Zh_ (HG.out.mod m6);clear HG qK qK' c9 c5 c25 c44 ro m6 hva;go_wp2_with fail;refine HG6.out.km.mono ?_;rintro e w7 ⟨rfl,m7⟩;rw [F1.out];have HG7:=Zh_ (HG6.out.mod m7);have M7:=Zh_ m7;clear m7;go_wp2_with fail;refine HG7.out.vf.mono ?_;rintro e w8 ⟨vs,rfl,S8,m8⟩;rw [F2.out] at S8;have HS8:=Zh_ S8;have M8:=Zh_ (M7.out.trans m8);have HG8:=Zh_ (HG7.out.mod m8);clear S8 m8;go_wp2_with fail;have ow:(w8.alloc (X #[Z V 4619567317775286272,Z V 4619567317775286272] 51)).ownsRow 0 51 1 (L (I ⟨w8.heap.size,0,O⟩) 2 2) 2 ([4619567317775286272,4619567317775286272].map (Z V)):=Bw (n:=2) (Zc _ _) J (by decide) (Nat.zero_le _);refine (Cd (l:=[4619567317775286272,4619567317775286272]) (Yg HS8.out.1 ((Zr_ _ _).alloc _)) ow (by decide)).mono ?_;rintro e w9 ⟨rfl,m9⟩;have M9:=Zh_ (M8.out.trans (((Zr_ _ _).alloc _).trans m9));have HG9:=Zh_ (HG8.out.mod (((Zr_ _ _).alloc _).trans m9));clear ow m9;obtain ⟨d9,d5,d25,d44⟩:=HC.out w9 M9.out;have HRV:=Zh_ (Yg HRO.out.1 M9.out);go_wp2_with fail;have ow:(w9.alloc (X #[Z V 0,Z V 0] 51)).ownsRow 0 51 1 (L (I ⟨w9.heap.size,0,O⟩) 2 2) 2 (([0,0]:List Nat).map (Z V)):=Bw (n:=2) (Zc _ _) J (by decide) (Nat.zero_le _);refine (Cd (l:=[0,0]) (Yg HRV.out ((Zr_ _ _).alloc _)) ow (by decide)).mono ?_;rintro e w10 ⟨rfl,m10⟩;have M10:=Zh_ (M9.out.trans (((Zr_ _ _).alloc _).trans m10));have HG10:=Zh_ (HG9.out.mod (((Zr_ _ _).alloc _).trans m10));clear ow m10 d9 d5 d25 d44;obtain ⟨d9,d5,d25,d44⟩:=HC.out w10 M10.out;go_wp2;go_ret;exact ⟨J,HM1.out.trans HG10.out.fr⟩
end
end Go.Proofs.YtkhonmhnchdpkaaGreat
