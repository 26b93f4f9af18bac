/- A part of the proof; no condition. -/
import Derived.Test.YtkhonmhnchdpkaaGreatP41
import Derived.ProofKit
import Derived.SizedLaws
import Derived.Deep.Slices
set_option maxRecDepth 100000
set_option maxHeartbeats 40000000
namespace Go.Proofs.YtkhonmhnchdpkaaGreat
open Go.RowKit _root_.Go.Proofs.Tryz
section
open Go.ChangeShapes Go.WideShapes Go.ChangeAt Go.RowKit
section
variable {H:Type} {enc:TypeId×Value->H} {w:World} {fuel:Nat} {cs:List Value} {x:DataW H×List MemPlace}
theorem Me {P:Program} {base:Nat} {spare:Nat->Bool} {held:Bool} {t:TypeId} {k:FloatKind} (ht:P.underlying t=some (.float k)) (h:DataW.trod enc P w base spare held fuel t cs=some x):∃ b,cs=[.float k b]:=by
 cases fuel with
 |zero=>simp [DataW.trod] at h
 |succ n=>
  unfold DataW.trod at h;rw [ht] at h;split at h <;> simp_all
def Sz (t:TypeId) (d:DataW H):Prop:=∀ n∈d.weights Tryz.prog t,n<=reachBytes
theorem Gv {t:TypeId} {fs:Array Field} {f:Field} {parts:List (DataW H)} {d:DataW H} {i:Nat} (h:Sz t (.agg parts)) (hu:Tryz.prog.underlying t=some (.struct fs)) (hf:fs[i]? =some f) (hp:parts[i]? =some d):Sz f.type d:=by
 intro n hn;refine h n ?_;simp only [DataW.weights,hu];exact DataW.weights_mem_each (t:=f.type) (by simp [hf]) hp n hn
theorem Ft {P:Program} {e:TypeId} {d:DataW H} {n:Nat} (hn:n∈d.weights P e):∀ {l:List (DataW H)},d∈l->n∈DataW.weightsAll P e l
 |[],h=>by cases h
 |y :: r,h=>by
  simp only [DataW.weightsAll,List.mem_append];rcases List.mem_cons.1 h with rfl|h
  ·exact .inl hn
  ·exact .inr (Ft hn h)
theorem sz_elem {t e:TypeId} {es sp:List (DataW H)} {d:DataW H} (h:Sz t (.slice es sp)) (hu:Tryz.prog.underlying t=some (.slice e)) (hd:d∈es):Sz e d:=by
 intro n hn;refine h n ?_;simp only [DataW.weights,hu,List.mem_cons,List.mem_append];exact .inr (.inl (Ft hn hd))
theorem sz_len {t e:TypeId} {es sp:List (DataW H)} (h:Sz t (.slice es sp)) (hu:Tryz.prog.underlying t=some (.slice e)):(es.length+sp.length) * Tryz.prog.bytesOf e<=reachBytes:=by
 refine h _ ?_;simp [DataW.weights,hu]
theorem Jd {base:Nat} {a:Addr} {k n:Nat} {cs:List Value} (h:w.cells? base (a.add k) n=some cs) (j:Nat) (hj:j < n):w.cell? (a.add (k+j))=cs[j]?:=by
 have:=(World.cells?_some h).2.2 j hj;rw [<-this];congr 1
 unfold Addr.add
 by_cases hk:k=0
 ·subst hk;simp
 ·by_cases hj0:j=0
  ·subst hj0;simp [hk]
  ·simp [hk,hj0,Nat.add_assoc]
theorem Vu {a:Addr} {k:Nat} {v:Value} (h:w.cell? (a.add k)=some v) (hk:∃ u,w.cell? (a.add 0)=some u):a=⟨a.block,a.off,none⟩/\a.block < w.heap.size/\w.cell? ⟨a.block,a.off+k,none⟩=some v:=by
 obtain ⟨u,hu⟩:=hk;have h0:a.add 0=a:=by unfold Addr.add;simp
 rw [h0] at hu;have hs:=World.cell?_spot hu;obtain ⟨b,o,sp⟩:=a;simp only at hs;subst hs;refine ⟨rfl,World.block_lt_of_cell? w _ hu,?_⟩;rw [Br] at h;exact h
theorem Tv:Tryz.prog.cellsOf 106=3:=by kernel_rfl
theorem Tu:Tryz.prog.cellsOf 110=2:=by kernel_rfl
theorem Sd:Tryz.prog.cellsOf 63=2:=by kernel_rfl
theorem cells61:Tryz.prog.cellsOf 61=1:=by kernel_rfl
theorem Se:Tryz.prog.cellsOf 51=1:=by kernel_rfl
theorem Jo:Tryz.prog.cellsOf 3=1:=by kernel_rfl
theorem Sf:Tryz.prog.cellsOf 24=1:=by kernel_rfl
theorem cells25:Tryz.prog.cellsOf 25=1:=by kernel_rfl
theorem cells26:Tryz.prog.cellsOf 26=1:=by kernel_rfl
theorem cells108:Tryz.prog.cellsOf 108=1:=by kernel_rfl
theorem cells23:Tryz.prog.cellsOf 23=4:=by kernel_rfl
theorem cells28:Tryz.prog.cellsOf 28=7:=by kernel_rfl
theorem bytes106:Tryz.prog.bytesOf 106=24:=by kernel_rfl
theorem Qi {t t':TypeId} {fs:Array Field} {f:Field} {i o k:Nat} (hu:Tryz.prog.underlying t=some (.struct fs)) (h:DataW.trod enc Tryz.prog w 0 (λ _=>true) true fuel t cs=some x) (hf:fs[i]? =some f) (ht:f.type=t') (ho:f.offset=o) (hk:Tryz.prog.cellsOf t'=k):
  ∃ n y parts,x.1=.agg parts/\parts[i]? =some y.1/\DataW.trod enc Tryz.prog w 0 (λ _=>true) true n t' ((cs.drop o).take k)=some y:=by
 subst ht ho hk;obtain ⟨xs,n,_,rfl,_,hlen,hg⟩:=DataW.trod_struct hu h;have h1:=hg i f hf;have hi:i < xs.length:=by rw [hlen];exact (Array.getElem?_eq_some_iff.1 hf).1
 rw [List.getElem?_eq_getElem hi] at h1;exact ⟨n,xs[i],xs.map (·.1),rfl,by simp [hi],h1⟩
theorem Gd {t:TypeId} {fs:Array Field} (hu:Tryz.prog.underlying t=some (.struct fs)) (h:DataW.trod enc Tryz.prog w 0 (λ _=>true) true fuel t cs=some x):cs.length=Tryz.prog.cellsOf t:=by
 obtain ⟨xs,n,_,rfl,hl,_,_⟩:=DataW.trod_struct hu h;exact hl
instance:Inhabited Xf:=⟨Dw⟩
theorem open_ins (h:DataW.trod enc Tryz.prog w 0 (λ _=>true) true fuel 106 cs=some x):∃ i:Xf,cs=[.int .i64 i.op,.int .i64 i.n,.float .f64 i.x]:=by
 have hl:=Gd underlying106 h;rw [Tv] at hl;obtain ⟨n0,y0,p0,-,-,h0⟩:=Qi (i:=0) underlying106 h rfl rfl rfl Jo;obtain ⟨n1,y1,p1,-,-,h1⟩:=Qi (i:=1) underlying106 h rfl rfl rfl Jo;obtain ⟨n2,y2,p2,-,-,h2⟩:=Qi (i:=2) underlying106 h rfl rfl rfl Se
 match cs,hl with
 |[a,b,c],_=>
  obtain ⟨m0,e0,-⟩:=DataW.trod_int underlying3 h0;obtain ⟨m1,e1,-⟩:=DataW.trod_int underlying3 h1;obtain ⟨m2,e2⟩:=Me underlying51 h2;simp at e0 e1 e2;exact ⟨⟨m0,m1,m2⟩,by rw [e0,e1,e2]⟩
theorem Ja {α:Type} [Inhabited α] (d0:α) {t e:TypeId} (ht:Tryz.prog.underlying t=some (.slice e)) (h:DataW.trod enc Tryz.prog w 0 (λ _=>true) true fuel t cs=some x) (hs:Sz t x.1)
  (Q:α->List Value->Prop) (hQ:∀ (n:Nat) (c:List Value) (y:DataW H×List MemPlace),DataW.trod enc Tryz.prog w 0 (λ _=>true) true n e c=some y->Sz e y.1->∃ a,Q a c):
  ∃ a cap,∃ l:List α,cs=[.slice a l.length cap]/\(a=none->l=[]/\cap=0)/\(l.length * Tryz.prog.bytesOf e<=reachBytes)/\∀ i,i < l.length->∃ ad c,a=some ad/\Q (l.getD i d0) c/\w.cells? 0 (ad.add (i * Tryz.prog.cellsOf e)) (Tryz.prog.cellsOf e)=some c:=by
 rcases Deep.open_slice ht h with ⟨rfl,rfl⟩|⟨ad,len,cap,m,n,D,Pl,rfl,_,hl,hm,hmm,rfl,hcell⟩
 ·exact ⟨none,0,[],rfl,λ _=>⟨rfl,rfl⟩,by simp,λ i hi=>absurd hi (by simp)⟩
 ·simp only [if_true] at hmm;subst hmm;obtain ⟨X,hX⟩:=Deep.choose_lt (α:=α) (n:=len) (p:=λ i a=>∃ c,Q a c/\w.cells? 0 (ad.add (i * Tryz.prog.cellsOf e)) (Tryz.prog.cellsOf e)=some c) (λ i hi=>by
   obtain ⟨c,h1,h2⟩:=hcell i (by omega);obtain ⟨a,ha⟩:=hQ n c _ h2 (sz_elem hs ht (List.mem_map.2 ⟨i,by simpa using hi,rfl⟩));exact ⟨a,c,ha,h1⟩)
  refine ⟨some ad,m,(List.range len).map X,by simp,(λ hn=>by cases hn),?_,λ i hi=>?_⟩
  ·have:=sz_len hs ht;simp only [List.length_map,List.length_range] at this ⊢
   exact Nat.le_trans (Nat.mul_le_mul_right _ (by omega)) this
  ·have hi':i < len:=by simpa using hi
   obtain ⟨c,q,hc⟩:=hX i hi';refine ⟨ad,c,rfl,?_,hc⟩;simpa [hi'] using q
theorem Wd (h:DataW.trod enc Tryz.prog w 0 (λ _=>true) true fuel 108 cs=some x) (hs:Sz 108 x.1):∃ (v:Value) (code:List Xf),cs=[v]/\U4 w 3 v code.length (Yk code)/\code.length<=5864062014635:=by
 obtain ⟨a,cap,l,rfl,hn,hb,hc⟩:=Ja Dw underlying108 h hs (λ (i:Xf) c=>c=[.int .i64 i.op,.int .i64 i.n,.float .f64 i.x]) (λ n c y hy _=>open_ins hy);refine ⟨_,l,rfl,⟨Fg l,?_⟩,?_⟩
 ·cases a with
  |none=>
   obtain ⟨rfl,rfl⟩:=hn rfl;exact .inl ⟨rfl,rfl⟩
  |some ad=>
   refine .inr ⟨ad,cap,rfl,λ j u hu=>?_⟩;have hj:j < l.length * 3:=by
    rcases Nat.lt_or_ge j (Yk l).length with h'|h'
    ·rw [Fg] at h';exact h'
    ·rw [List.getElem?_eq_none h'] at hu;cases hu
   obtain ⟨ad',c,e,rfl,hcc⟩:=hc (j / 3) (by omega);obtain rfl:=Zo_ e;rw [Tv] at hcc;have h1:=Jd hcc (j % 3) (by omega);rw [show j / 3 * 3+j % 3=j by omega] at h1;have h2:(Yk l)[j / 3 * 3+j % 3]? =([Value.int .i64 (l.getD (j / 3) Dw).op,Value.int .i64 (l.getD (j / 3) Dw).n,Value.float .f64 (l.getD (j / 3) Dw).x])[j % 3]?:=by
    have e1:Yk l=(l.map (λ i:Xf=>[Value.int .i64 i.op,Value.int .i64 i.n,Value.float .f64 i.x])).flatten:=by unfold Yk;rw [List.flatMap_def]
    rw [e1,Km (z:=3) (by intro y hy;obtain ⟨i,_,rfl⟩:=List.mem_map.1 hy;rfl) (by simp;omega) (by omega)];have hk:j / 3 < l.length:=by omega
    rw [List.getD_eq_getElem?_getD,List.getElem?_map,List.getD_eq_getElem?_getD,List.getElem?_eq_getElem hk];rfl
   rw [show j / 3 * 3+j % 3=j by omega,hu] at h2;rw [<-h2] at h1;refine ⟨?_,h1⟩;have:=World.block_lt_of_cell? w _ h1;rw [Ub] at this;exact this
 ·rw [bytes106] at hb;unfold reachBytes at hb;omega
theorem Fv (h:DataW.trod enc Tryz.prog w 0 (λ _=>true) true fuel 24 cs=some x) (hs:Sz 24 x.1):∃ (v:Value) (l:List Nat),cs=[v]/\U4 w 1 v l.length (l.map (Value.float .f64))/\FX w v l:=by
 obtain ⟨a,cap,l,rfl,hn,hb,hc⟩:=Ja 0 underlying24 h hs (λ (b:Nat) c=>c=[.float .f64 b]) (λ n c y hy _=>Me underlying51 hy);have hcell:∀ i,i < l.length->∃ ad,a=some ad/\w.cell? (ad.add i)=some (.float .f64 (l.getD i 0)):=by
  intro i hi;obtain ⟨ad,c,e,rfl,hcc⟩:=hc i hi;rw [Se] at hcc;have:=Jd hcc 0 (by omega);rw [Nat.mul_one,Nat.add_zero] at this;exact ⟨ad,e,this⟩
 refine ⟨_,l,rfl,⟨by simp,?_⟩,⟨a,cap,rfl,λ i hi=>?_⟩⟩
 ·cases a with
  |none=>
   obtain ⟨rfl,rfl⟩:=hn rfl;exact .inl ⟨rfl,rfl⟩
  |some ad=>
   refine .inr ⟨ad,cap,rfl,λ j u hu=>?_⟩;have hj:j < l.length:=by
    rcases Nat.lt_or_ge j (l.map (Value.float .f64)).length with h'|h'
    ·simpa using h'
    ·rw [List.getElem?_eq_none h'] at hu;cases hu
   obtain ⟨ad',e,h1⟩:=hcell j hj;obtain rfl:=Zo_ e;have h2:(l.map (Value.float .f64))[j]? =some (.float .f64 (l.getD j 0)):=by simp [hj]
   rw [hu] at h2;rw [<-h2] at h1;refine ⟨?_,h1⟩;have:=World.block_lt_of_cell? w _ h1;rw [Ub] at this;exact this
 ·obtain ⟨ad,rfl,h1⟩:=hcell i hi;obtain ⟨ad0,e,h0⟩:=hcell 0 (by omega);obtain rfl:=Zo_ e;obtain ⟨e1,e2,e3⟩:=Vu h1 ⟨_,h0⟩;exact ⟨ad.block,ad.off,by rw [<-e1],e2,e3⟩
theorem Wc (h:DataW.trod enc Tryz.prog w 0 (λ _=>true) true fuel 110 cs=some x) (hs:Sz 110 x.1):∃ p:Int×List Xf,∃ v,cs=[.int .i64 p.1,v]/\U4 w 3 v p.2.length (Yk p.2)/\p.2.length<=5864062014635:=by
 have hl:=Gd underlying110 h;rw [Tu] at hl;obtain ⟨n0,y0,p0,-,-,h0⟩:=Qi (i:=0) underlying110 h rfl rfl rfl Jo;obtain ⟨n1,y1,p1,ex,ey,h1⟩:=Qi (i:=1) underlying110 h rfl rfl rfl cells108;rw [ex] at hs;have hs1:=Gv hs underlying110 (i:=1) rfl ey
 match cs,hl with
 |[a,b],_=>
  obtain ⟨m0,e0,-⟩:=DataW.trod_int underlying3 h0;obtain ⟨v,code,e1,hc,hb⟩:=Wd h1 hs1;simp at e0 e1;exact ⟨(m0,code),v,by rw [e0,e1],hc,hb⟩
theorem We (h:DataW.trod enc Tryz.prog w 0 (λ _=>true) true fuel 63 cs=some x) (hs:Sz 63 x.1):∃ p:Int×List Nat,∃ v,cs=[.int .i64 p.1,v]/\U4 w 1 v p.2.length (p.2.map (Value.float .f64)):=by
 have hl:=Gd underlying63 h;rw [Sd] at hl;obtain ⟨n0,y0,p0,-,-,h0⟩:=Qi (i:=0) underlying63 h rfl rfl rfl Jo;obtain ⟨n1,y1,p1,ex,ey,h1⟩:=Qi (i:=1) underlying63 h rfl rfl rfl Sf;rw [ex] at hs;have hs1:=Gv hs underlying63 (i:=1) rfl ey
 match cs,hl with
 |[a,b],_=>
  obtain ⟨m0,e0,-⟩:=DataW.trod_int underlying3 h0;obtain ⟨v,l,e1,hc,_⟩:=Fv h1 hs1;simp at e0 e1;exact ⟨(m0,l),v,by rw [e0,e1],hc⟩
theorem Jk {ad:Addr} {i:Nat} {a b:Value} (h:w.cells? 0 (ad.add (i * 2)) 2=some [a,b]):w.cell? (ad.add (i * 2))=some a/\w.cell? (ad.add (i * 2+1))=some b:=by
 have h0:=Jd h 0 (by omega);have h1:=Jd h 1 (by omega);exact ⟨h0,h1⟩
theorem La (h:DataW.trod enc Tryz.prog w 0 (λ _=>true) true fuel 25 cs=some x) (hs:Sz 25 x.1):∃ (v:Value) (l:List (Int×List Xf)),cs=[v]/\Gp w v l/\∀ p∈l,p.2.length<=5864062014635:=by
 obtain ⟨a,cap,l,rfl,hn,hb,hc⟩:=Ja (0,[]) underlying25 h hs (λ (p:Int×List Xf) c=>∃ v,c=[.int .i64 p.1,v]/\U4 w 3 v p.2.length (Yk p.2)/\p.2.length<=5864062014635) (λ n c y hy hz=>Wc hy hz);rw [Tu] at hc;refine ⟨_,l,rfl,⟨a,cap,rfl,λ j hj=>?_⟩,λ p hp=>?_⟩
 ·obtain ⟨ad,c,rfl,⟨v,rfl,h2,_⟩,h3⟩:=hc j hj;obtain ⟨ad0,c0,e0,⟨v0,rfl,_⟩,h30⟩:=hc 0 (by omega);obtain rfl:=Zo_ e0;obtain ⟨k0,k1⟩:=Jk h3;have hz:=(Jk h30).1;rw [Nat.zero_mul] at hz;obtain ⟨e1,e2,e3⟩:=Vu k0 ⟨_,hz⟩;obtain ⟨_,_,e4⟩:=Vu k1 ⟨_,hz⟩;exact ⟨ad.block,ad.off,v,by rw [<-e1],e2,e3,by rw [<-Nat.add_assoc] at e4;exact e4,h2⟩
 ·obtain ⟨i,hi,rfl⟩:=List.mem_iff_getElem.1 hp;obtain ⟨ad,c,e,⟨v,e1,_,h2⟩,h3⟩:=hc i hi;rw [List.getD_eq_getElem?_getD,List.getElem?_eq_getElem hi] at h2;exact h2
theorem Lb (h:DataW.trod enc Tryz.prog w 0 (λ _=>true) true fuel 61 cs=some x) (hs:Sz 61 x.1):∃ (l:List (Int×List Nat)) (v:Value),cs=[v]/\Js w v l:=by
 obtain ⟨a,cap,l,rfl,hn,hb,hc⟩:=Ja (0,[]) underlying61 h hs (λ (p:Int×List Nat) c=>∃ v,c=[.int .i64 p.1,v]/\U4 w 1 v p.2.length (p.2.map (Value.float .f64))) (λ n c y hy hz=>We hy hz);rw [Sd] at hc;refine ⟨l,_,rfl,a,cap,rfl,λ j hj=>?_⟩;obtain ⟨ad,c,rfl,⟨v,rfl,h2⟩,h3⟩:=hc j hj;obtain ⟨ad0,c0,e0,⟨v0,rfl,_⟩,h30⟩:=hc 0 (by omega);obtain rfl:=Zo_ e0;obtain ⟨k0,k1⟩:=Jk h3;have hz:=(Jk h30).1;rw [Nat.zero_mul] at hz;obtain ⟨e1,e2,e3⟩:=Vu k0 ⟨_,hz⟩;obtain ⟨_,_,e4⟩:=Vu k1 ⟨_,hz⟩;exact ⟨ad.block,ad.off,v,by rw [<-e1],e2,e3,by rw [<-Nat.add_assoc] at e4;exact e4,h2⟩
theorem Wb (h:DataW.trod enc Tryz.prog w 0 (λ _=>true) true fuel 26 cs=some x) (hs:Sz 26 x.1):∃ (l:List (List (Int×List Nat))) (v:Value),cs=[v]/\Ky w v l:=by
 obtain ⟨a,cap,l,rfl,hn,hb,hc⟩:=Ja [] underlying26 h hs (λ (p:List (Int×List Nat)) c=>∃ v,c=[v]/\Js w v p) (λ n c y hy hz=>Lb hy hz);rw [cells61] at hc;refine ⟨l,_,rfl,a,cap,rfl,λ j hj=>?_⟩;have C:∀ i,i < l.length->∃ ad v,a=some ad/\w.cell? (ad.add i)=some v/\Js w v (l.getD i []):=by
  intro i hi;obtain ⟨ad,c,e,⟨v,rfl,h2⟩,h3⟩:=hc i hi;have:=Jd h3 0 (by omega);rw [Nat.mul_one,Nat.add_zero] at this;exact ⟨ad,v,e,this,h2⟩
 obtain ⟨ad,v,rfl,h1,h2⟩:=C j hj;obtain ⟨ad0,v0,e0,h10,_⟩:=C 0 (by omega);obtain rfl:=Zo_ e0;obtain ⟨e1,e2,e3⟩:=Vu h1 ⟨_,h10⟩;exact ⟨ad.block,ad.off,v,by rw [<-e1],e2,e3,h2⟩
theorem open_setup {v:Value} {d:DataW H} {p:List MemPlace} (hv:Value.okWide Tryz.prog w .any 0 28 v) (h:DataW.Trod enc Tryz.prog w 0 (λ _=>true) true 28 v d p) (hs:Sz 28 d):
  ∃ (c0 c1 c2 c3:Int) (start:List Nat) (progs:List (Int×List Xf)) (cs:List (List (Int×List Nat))),Ka w v c0 c1 c2 c3 start progs cs/\∀ p∈progs,p.2.length<=5864062014635:=by
 obtain ⟨cells,rfl,hsz⟩:=okWide_struct underlying28 hv;rw [cells28] at hsz;obtain ⟨fuel,hf⟩:=h;obtain ⟨⟨cl⟩⟩:Nonempty (Σ' l:List Value,cells=l.toArray):=⟨⟨cells.toList,by simp⟩⟩;rename_i hcl;subst hcl;have hf':DataW.trod enc Tryz.prog w 0 (λ _=>true) true fuel 28 cl=some (d,p):=by simpa [Value.cells] using hf
 have hl:cl.length=7:=by simpa using hsz
 obtain ⟨n0,y0,p0,ex0,ey0,h0⟩:=Qi (i:=0) underlying28 hf' rfl rfl rfl cells23;obtain ⟨n1,y1,p1,ex1,ey1,h1⟩:=Qi (i:=1) underlying28 hf' rfl rfl rfl Sf;obtain ⟨n2,y2,p2,ex2,ey2,h2⟩:=Qi (i:=2) underlying28 hf' rfl rfl rfl cells25;obtain ⟨n3,y3,p3,ex3,ey3,h3⟩:=Qi (i:=3) underlying28 hf' rfl rfl rfl cells26;have hs1:=Gv (by rw [<-ex1];exact hs) underlying28 (i:=1) rfl ey1;have hs2:=Gv (by rw [<-ex2];exact hs) underlying28 (i:=2) rfl ey2;have hs3:=Gv (by rw [<-ex3];exact hs) underlying28 (i:=3) rfl ey3;obtain ⟨a0,b0,q0,-,-,k0⟩:=Qi (i:=0) underlying23 h0 rfl rfl rfl Jo;obtain ⟨a1,b1,q1,-,-,k1⟩:=Qi (i:=1) underlying23 h0 rfl rfl rfl Jo;obtain ⟨a2,b2,q2,-,-,k2⟩:=Qi (i:=2) underlying23 h0 rfl rfl rfl Jo;obtain ⟨a3,b3,q3,-,-,k3⟩:=Qi (i:=3) underlying23 h0 rfl rfl rfl Jo
 match cl,hl with
 |[v0,v1,v2,v3,v4,v5,v6],_=>
  obtain ⟨c0,e0,-⟩:=DataW.trod_int underlying3 k0;obtain ⟨c1,e1,-⟩:=DataW.trod_int underlying3 k1;obtain ⟨c2,e2,-⟩:=DataW.trod_int underlying3 k2;obtain ⟨c3,e3,-⟩:=DataW.trod_int underlying3 k3;obtain ⟨u4,start,e4,-,fx⟩:=Fv h1 hs1;obtain ⟨u5,progs,e5,pr,pl⟩:=La h2 hs2;obtain ⟨cs,u6,e6,th⟩:=Wb h3 hs3;simp at e0 e1 e2 e3 e4 e5 e6;subst e0 e1 e2 e3 e4 e5 e6;exact ⟨c0,c1,c2,c3,start,progs,cs,⟨_,_,_,rfl,fx,pr,th⟩,pl⟩
theorem open_script34 {v:Value} {d:DataW H} {p:List MemPlace} (hv:Value.okWide Tryz.prog w .any 0 34 v) (h:DataW.Trod enc Tryz.prog w 0 (λ _=>true) true 34 v d p) (hs:Sz 34 d):∃ l,Dh w v l:=by
 obtain ⟨a,len,cap,rfl⟩:=okWide_slice underlying34 hv;obtain ⟨fuel,hf⟩:=h;obtain ⟨a',cap',l,e,hn,hb,hc⟩:=Ja 0 underlying34 hf hs (λ (b:Int) c=>c=[.int .i64 b]) (λ n c y hy _=>by
  obtain ⟨m,e,-⟩:=DataW.trod_int underlying3 hy;exact ⟨m,e⟩)
 rw [Jo] at hc;have e':Value.slice a len cap=.slice a' l.length cap':=by simpa [Value.cells] using e
 rw [e'];have C:∀ i,i < l.length->∃ ad,a'=some ad/\w.cell? (ad.add i)=some (.int .i64 (l.getD i 0)):=by
  intro i hi;obtain ⟨ad,c,e,rfl,h3⟩:=hc i hi;have:=Jd h3 0 (by omega);rw [Nat.mul_one,Nat.add_zero] at this;exact ⟨ad,e,this⟩
 refine ⟨l,a',cap',rfl,?_⟩
 by_cases h0:l.length=0
 ·exact .inl (List.eq_nil_of_length_eq_zero h0)
 ·obtain ⟨ad0,rfl,h10⟩:=C 0 (by omega);right;obtain ⟨e1,e2,_⟩:=Vu h10 ⟨_,h10⟩;refine ⟨ad0.block,ad0.off,by rw [<-e1],e2,λ i hi=>?_⟩;obtain ⟨ad,e,h1⟩:=C i hi;obtain rfl:=Zo_ e;exact (Vu h1 ⟨_,h10⟩).2.2
end
end
section
theorem sz_of {H:Type} {ts:List TypeId} {ds:List (DataW H)} {j:Nat} {t:TypeId} {d:DataW H} (hsz:(DataW.weightsEach Tryz.prog ts ds).all (·<=reachBytes)=true) (hj:ts[j]? =some t) (hd:ds[j]? =some d):Sz t d:=by
 intro n hn;have:=List.all_eq_true.1 hsz n (DataW.weights_mem_each hj hd n hn);simpa using this
end
section
theorem repeat_c {w:World} {v vl:Value} {c0 c1 c2 c3:Int} {start:List Nat} {progs:List (Int×List Xf)} {cs:List (List (Int×List Nat))} {l:List Int} (h:Ka w v c0 c1 c2 c3 start progs cs) (hl:Dh w vl l) (hpl:∀ p∈progs,p.2.length<=5864062014635):
  Calls Tryz.prog 4 #[v,vl] w λ e w'=>e=.returned (.bool true)/\Ze [] w w':=by
 by_cases hz:Yr c0 c1 c2 c3 start.length progs.length cs=0
 ·exact Ak (Dk hz) hpl h hl
 ·obtain ⟨sa,sc,rfl,_⟩:=hl;exact Cq hz h
end
end Go.Proofs.YtkhonmhnchdpkaaGreat
