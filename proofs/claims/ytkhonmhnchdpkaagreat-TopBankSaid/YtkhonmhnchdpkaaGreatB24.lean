/- A part of the proof; no condition. -/
import Derived.Test.YtkhonmhnchdpkaaGreatB23
set_option maxRecDepth 100000
set_option maxHeartbeats 40000000
namespace Go.Proofs.YtkhonmhnchdpkaaGreat
open Go.RowKit _root_.Go.Proofs.Tryz
open Go renaming World→W
open Value renaming int→U,pointer→E,slice→L,float→Z,agg→A_
open IntKind renaming i64→Y
open FloatKind renaming f64→V
open Obj renaming cells→X
open Option renaming some→I,none→O
open Ending renaming returned→R_
open _root_.Go.Proofs.Tryz renaming prog→N
open List renaming getD_eq_getElem?_getD→G_
section
variable {w w':W} {c0 c1 c2 c3:Int} {start:List Nat} {progs:List (Int×List Xg)} {cs:List (List (Int×List Nat))} {vs vp vt:Value}
section
variable {c0 c1 c2 c3 p0 p1 p2 p3 p4 p5:Int} {vp va vr vt:Value}
theorem yset4 (u:Value):(Yy c0 c1 c2 c3 vp p0 p1 p2 p3 p4 p5 va vr vt).setIfInBounds 4 u=Yy c0 c1 c2 c3 u p0 p1 p2 p3 p4 p5 va vr vt:=J
theorem yset5 (n:Int):(Yy c0 c1 c2 c3 vp p0 p1 p2 p3 p4 p5 va vr vt).setIfInBounds 5 (U Y n)=Yy c0 c1 c2 c3 vp n p1 p2 p3 p4 p5 va vr vt:=J
theorem yget5:(Yy c0 c1 c2 c3 vp p0 p1 p2 p3 p4 p5 va vr vt)[5]? =I (U Y p0):=J
theorem yset6 (n:Int):(Yy c0 c1 c2 c3 vp p0 p1 p2 p3 p4 p5 va vr vt).setIfInBounds 6 (U Y n)=Yy c0 c1 c2 c3 vp p0 n p2 p3 p4 p5 va vr vt:=J
theorem yget6:(Yy c0 c1 c2 c3 vp p0 p1 p2 p3 p4 p5 va vr vt)[6]? =I (U Y p1):=J
theorem yset7 (n:Int):(Yy c0 c1 c2 c3 vp p0 p1 p2 p3 p4 p5 va vr vt).setIfInBounds 7 (U Y n)=Yy c0 c1 c2 c3 vp p0 p1 n p3 p4 p5 va vr vt:=J
theorem yget7:(Yy c0 c1 c2 c3 vp p0 p1 p2 p3 p4 p5 va vr vt)[7]? =I (U Y p2):=J
theorem yset8 (n:Int):(Yy c0 c1 c2 c3 vp p0 p1 p2 p3 p4 p5 va vr vt).setIfInBounds 8 (U Y n)=Yy c0 c1 c2 c3 vp p0 p1 p2 n p4 p5 va vr vt:=J
theorem yget8:(Yy c0 c1 c2 c3 vp p0 p1 p2 p3 p4 p5 va vr vt)[8]? =I (U Y p3):=J
theorem yset9 (n:Int):(Yy c0 c1 c2 c3 vp p0 p1 p2 p3 p4 p5 va vr vt).setIfInBounds 9 (U Y n)=Yy c0 c1 c2 c3 vp p0 p1 p2 p3 n p5 va vr vt:=J
theorem yget9:(Yy c0 c1 c2 c3 vp p0 p1 p2 p3 p4 p5 va vr vt)[9]? =I (U Y p4):=J
theorem yset10 (n:Int):(Yy c0 c1 c2 c3 vp p0 p1 p2 p3 p4 p5 va vr vt).setIfInBounds 10 (U Y n)=Yy c0 c1 c2 c3 vp p0 p1 p2 p3 p4 n va vr vt:=J
theorem Rw:(Yy c0 c1 c2 c3 vp p0 p1 p2 p3 p4 p5 va vr vt)[10]? =I (U Y p5):=J
theorem yset11 (u:Value):(Yy c0 c1 c2 c3 vp p0 p1 p2 p3 p4 p5 va vr vt).setIfInBounds 11 u=Yy c0 c1 c2 c3 vp p0 p1 p2 p3 p4 p5 u vr vt:=J
theorem yget11:(Yy c0 c1 c2 c3 vp p0 p1 p2 p3 p4 p5 va vr vt)[11]? =I (va):=J
theorem yset12 (u:Value):(Yy c0 c1 c2 c3 vp p0 p1 p2 p3 p4 p5 va vr vt).setIfInBounds 12 u=Yy c0 c1 c2 c3 vp p0 p1 p2 p3 p4 p5 va u vt:=J
theorem Ru:(Yy c0 c1 c2 c3 vp p0 p1 p2 p3 p4 p5 va vr vt)[12]? =I (vr):=J
theorem Tr:(Yy c0 c1 c2 c3 vp p0 p1 p2 p3 p4 p5 va vr vt)[13]? =I (vt):=J
end
def NewP (w:W) (c0 c1 c2 c3:Int) (start:List Nat) (progs:List (Int×List Xg)) (cs:List (List (Int×List Nat))) (e:Ending) (w':W):Prop:=
 ∃ x a b r vp vt kts vcs,e=R_ (.tuple #[Xy x,U Y 0])/\Be w.heap.size c0 c1 c2 c3 (Qx (.fresh (Zw c0 c1).toNat) (Z2 c1) start) progs cs x a b r c1.toNat vp vt kts vcs w'/\Ze [] w w'
theorem new_c (hk:Tm c0 c1 c2 c3 start.length progs.length cs) (hpl:∀ p∈progs,p.2.length<=5864062014635) (hT:Hi w vt cs) (hP:Mh w vp progs) (hS:FX w vs start):
  Calls N 17 #[A_ #[U Y c0,U Y c1,U Y c2,U Y c3,vs,vp,vt]] w (NewP w c0 c1 c2 c3 start progs cs):=by
 obtain ⟨ap,cp,hvp,hP⟩:=hP;obtain ⟨sa,ca,hvs,hS'⟩:=id hS;obtain ⟨zq,ct,hvt,hT'⟩:=id hT;have hz:Qo c0 c1 c2 c3 start.length progs.length cs=0:=by
  refine Dv hk.cf hk.s hk.p hk.t hk.l (λ i j hi hj=>?_);have:=hk.c i j hi hj;unfold Qs;simp only [Bool.or_eq_false_iff,decide_eq_false_iff_not];omega
 have hW:=λ (wx:W) (m:Ze [] w wx)=>wrong_c (c0:=c0) (c1:=c1) (c2:=c2) (c3:=c3) (sa:=sa) (ns:=start.length) (cs':=ca) (ap:=ap) (np:=progs.length) (cp:=cp) (hT.mod m).rd;rw [hz] at hW;subst hvp hvs hvt;obtain ⟨hc,hs,hp,ht,h64,hcall⟩:=hk;have HC:=Zh_ hc;have HPL:=Zh_ hpl;have HT:=Zh_ hT';have HP:=Zh_ hP;have HS:=Zh_ hS;have HW:=Zh_ hW;have H64:=Zh_ h64;have HCALL:=Zh_ hcall;have HSL:=Zh_ hs;clear hT hP hS hS' hT' hW h64 hcall hz hpl hs;go_enter func17,ntmps17;go_wp2_with fail;refine Calls.mono (HW.out _ ((Zr_ _ _).alloc _)) ?_;rintro e w1 ⟨rfl,m1⟩;have B1:=m1.at (Zc w _) (by simp);have x0:=Za (i:=0) B1 J;have x1:=Za (i:=1) B1 J;have x2:=Za (i:=2) B1 J;have x3:=Za (i:=3) B1 J;have HB1:=Zh_ B1;have M1:=Zh_ (((Zr_ _ w).alloc (X #[U Y c0,U Y c1,U Y c2,U Y c3,L sa start.length ca,L ap progs.length cp,L zq cs.length ct] 28)).trans m1);clear m1 B1;go_upto_region 5 with fail;have B2:=Zf (.cells (Yy c0 c1 c2 c3 (L O 0 0) 0 0 0 0 0 0 (E O) (E O) (L O 0 0)) 79) HB1.out;have X2:=Zc w1 (.cells (Yy c0 c1 c2 c3 (L O 0 0) 0 0 0 0 0 0 (E O) (E O) (L O 0 0)) 79);have M2:=Zh_ (M1.out.alloc (.cells (Yy c0 c1 c2 c3 (L O 0 0) 0 0 0 0 0 0 (E O) (E O) (L O 0 0)) 79));have hx:w.heap.size<=w1.heap.size:=M1.out.size;have hk:w.heap.size < w1.heap.size:=lt_of_block HB1.out;obtain ⟨k,hk'⟩:∃ k,k=w.heap.size:=⟨_,J⟩;obtain ⟨x,hx'⟩:∃ x,x=w1.heap.size:=⟨_,J⟩;rw [<-hk',<-hx'] at hk;rw [<-hx'] at hx;rw [<-hk'] at B2;rw [<-hx'] at X2;rw [<-hk',<-hx'];have HK:=Zh_ hk';have HX:=Zh_ hx;have HKX:=Zh_ hk;unfold Yy at B2 X2 M2;clear x0 x1 x2 x3 HB1 M1 hk' hx' hx hk HW;generalize w1.alloc _=w2 at *
 have y5:=Za (i:=5) B2 J;have HB2:=Zh_ B2;have HX2:=Zh_ (show w2.heap[x]? =I (.cells (Yy c0 c1 c2 c3 (L O 0 0) 0 0 0 0 0 0 (E O) (E O) (L O 0 0)) 79 (0,0)) from X2);clear B2 X2;go_wp2_with fail
 go_loopw [24] (λ i wx=>∃ z:Nat,z<=progs.length/\i=U Y z/\(∃ v,wx.heap[x]? =I (.cells (Yy c0 c1 c2 c3 v 0 0 0 0 0 0 (E O) (E O) (L O 0 0)) 79 (0,0))/\V2 w.heap.size progs z v wx)/\wx.heap[k]? =I (X #[U Y c0,U Y c1,U Y c2,U Y c3,L sa start.length ca,L ap progs.length cp,L zq cs.length ct] 28 (0,0))/\Ze [] w wx) (λ i _=>progs.length - (intOf i).toNat)
 case atStart=>exact ⟨0,by omega,rfl,⟨L O 0 0,HX2.out,[],rfl,⟨World.ownsRow_nil _ _ _ _,by simp [Value.ownBlock]⟩,λ j hj=>absurd hj (by omega)⟩,HB2.out,M2.out⟩
 case round=>
  clear y5;obtain ⟨z,hz,rfl,⟨v,hv,hK⟩,hB,m⟩:=hrel;have HV:=Zh_ hv;have HPK:=Zh_ hK;have HM:=Zh_ m;have HB:=Zh_ hB
  by_cases hlt:z < progs.length
  ·have d4:decide ((z:Int) < (progs.length:Int))=true:=decide_eq_true (by omega);obtain ⟨h,oo,u,rfl,hh,k1,k2,k3⟩:=HP.out z hlt;obtain ⟨us,hus,hrow,hcodes⟩:=hK;obtain ⟨av,cv,rfl⟩:=Zo hrow.1;obtain ⟨tag,htag⟩:∃ t,t=(progs.getD z (0,[])).1:=⟨_,J⟩;obtain ⟨code,hcode⟩:∃ t,t=(progs.getD z (0,[])).2:=⟨_,J⟩;have hclen:code.length<=5864062014635:=by
    rw [hcode];exact HPL.out _ (Ki hlt)
   rw [<-htag] at k1;rw [<-hcode] at k3;obtain ⟨ua,uc,rfl⟩:=k3.form;have k1':=Z5 HM.out hh (by simp) k1;have k2':=Z5 HM.out hh (by simp) k2;obtain ⟨n,hn⟩:∃ n,n=code.length:=⟨_,J⟩;rw [<-hn] at k2' k3;have K3:=Zh_ k3;have HTAG:=Zh_ htag;have HCODE:=Zh_ hcode;have HCL:=Zh_ hclen;have HNN:=Zh_ hn;have HROW:=Zh_ hrow;have HUS:=Zh_ hus;have HCODES:=Zh_ hcodes;clear k1 k2 k3 htag hcode hh hv hB m hrow hus hcodes hclen hn HPK;go_upto_region 8 with fail;obtain ⟨q,hq⟩:∃ q,q=wr.heap.size:=⟨_,J⟩;have Q7:=Zc wr (X #[U Y tag,L ua n uc] 110);have X7:=Zf (X #[U Y tag,L ua n uc] 110) HV.out;have B7:=Zf (X #[U Y tag,L ua n uc] 110) HB.out;have M7:=HM.out.alloc (X #[U Y tag,L ua n uc] 110);have MW:=(Zr_ [] wr).alloc (X #[U Y tag,L ua n uc] 110);rw [<-hq] at Q7 ⊢
   have hav:∀ g,(L av z cv).ownBlock=I g->g < q/\w.heap.size<=g:=λ g hg=>⟨by rw [hq];exact Yr HROW.out.1 hg,HROW.out.2 g hg⟩;clear k1' k2';generalize wr.alloc (X #[U Y tag,L ua n uc] 110)=w7 at *
   have R7:=HROW.out.mod MW;have MWH:=Zh_ MW;obtain ⟨n9,hn9⟩:∃ n,n=w7.heap.size:=⟨_,J⟩;have HN9:=Zh_ (show n9<=w7.drew.heap.size from Nat.le_of_eq hn9);have HN9':=Zh_ (show w.heap.size<=n9 by rw [hn9];exact M7.size);have HR7:=Zh_ R7.1;have HAV:=Zh_ hav;have HGL:=Zh_ (show ∀ k∈(L av z cv).ownBlock.toList,k < n9 from λ k hk=>by rw [hn9];exact Yr R7.1 (Option.mem_toList.1 hk));have HXW:=Zh_ (show ∀ wy,Ze (L av z cv).ownBlock.toList w7.drew wy->wy.heap[x]? =I (.cells (Yy c0 c1 c2 c3 (L av z cv) 0 0 0 0 0 0 (E O) (E O) (L O 0 0)) 79 (0,0)) from λ wy hR=>Xs X7 (by decide) R7.1 (((Zr_ _ w7).drew).trans hR));have HQW:=Zh_ (show ∀ wy,Ze (L av z cv).ownBlock.toList w7.drew wy->wy.heap[q]? =I (X #[U Y tag,L ua n uc] 110 (0,0)) from λ wy hR=>(((Zr_ _ w7).drew).trans hR).at Q7 (λ hm=>by have:=hav _ (Option.mem_toList.1 hm);omega));have HEW:=Zh_ (show ∀ wy,Ze (L av z cv).ownBlock.toList w7.drew wy->Bg wy 3 (L ua n uc) n (Yl code) from λ wy hR=>K3.out.zy (((M7.qj _).drew).trans hR) (λ k hk=>(hav k (Option.mem_toList.1 hk)).2));have HM7:=Zh_ M7;have HX7:=Zh_ X7;have HB7:=Zh_ B7;obtain ⟨i0,hi0,hz0,hz1,hz2⟩:=info_parts info110;obtain ⟨dl,hdl⟩:∃ l,l=Fp (progs.take z) us:=⟨_,J⟩;rw [<-hdl] at HR7;have HDL:=Zh_ hdl;clear Q7 X7 B7 M7 MW hav hq R7 hn9 hdl HV HB HM;refine Q3 (by kernel_rfl) 15 (by rfl) (Ze (L av z cv).ownBlock.toList) (Kf (L av z cv).ownBlock.toList 12) 12 (Ze [] w7.drew) (newF x 4 q n9 av cv z dl tag (L ua n uc) 106 3 n (Yl code) 110) (by kernel_rfl) (by rfl) (by kernel_rfl) (Wq x 4 q n9 av cv z dl tag (L ua n uc) 106 3 n (Yl code) 110 HGL.out) (λ i a b h=>Xn h) (λ j a b hj h k=>k.trans (Xr hj h)) (Zr_ _ _) (λ a=>Zr_ _ _) (λ a b c h k=>h.trans k) (λ i v w' hv o ho hd=>Vi (m:=15) (by kernel_rfl) (Ll x 4 q n9 av cv z dl tag (L ua n uc) 106 3 n (Yl code) 110) ho hd) ?_ ?_
   ·intro i o hi ho
    match i,hi with
    |0,_=>
     obtain rfl:=Zo_ ho;intro a wx hR hB hF hO;have f5:a.eval (.tmp 5)=E (I ⟨x,0,O⟩):=hO 5 (by kernel_rfl) (Zm (by kernel_rfl));have e5:=Tv_ f5;clear hF hO hB hR;go_simp;exact ⟨Zx (by decide) (Zr_ _ _),J⟩
    |1,_=>
     obtain rfl:=Zo_ ho;intro a wx hR hB hF hO;have e5:=To_ hO 5 (E (I ⟨x,0,O⟩));clear hF hO hB hR;go_simp;exact ⟨Zx (by decide) (Zr_ _ _),J⟩
    |2,_=>
     obtain rfl:=Zo_ ho;intro a wx hR hB hF hO;have e29:=Tf_ hF 29 1 (E (I ⟨x,0,O⟩));clear hF hO hB hR;go_simp;exact ⟨Zx (by decide) (Zr_ _ _),J⟩
    |3,_=>
     obtain rfl:=Zo_ ho;intro a wx hR hB hF hO;have e30:=Tf_ hF 30 2 (E (I ⟨x,0,O⟩));clear hF hO hB hR;go_simp;exact ⟨Zx (by decide) (Zr_ _ _),J⟩
    |4,_=>
     obtain rfl:=Zo_ ho;intro a wx hR hB hF hO;have e31:=Tf_ hF 31 3 (E (I ⟨x,4,O⟩));have cc:wx.cell? ⟨x,4,O⟩=I (L av z cv):=Za (HXW.out wx hR) J;clear hF hO hB hR;go_simp;exact ⟨Zx (by decide) (Zr_ _ _),J⟩
    |5,_=>
     obtain rfl:=Zo_ ho;intro a wx hR hB hF hO;have f7:a.eval (.tmp 7)=E (I ⟨q,0,O⟩):=hO 7 (by kernel_rfl) (Zm (by kernel_rfl));have e7:=Tv_ f7;clear hF hO hB hR;go_simp;exact ⟨Zx (by decide) (Zr_ _ _),J⟩
    |6,_=>
     obtain rfl:=Zo_ ho;intro a wx hR hB hF hO;have e33:=Tf_ hF 33 5 (E (I ⟨q,0,O⟩));have cc:wx.cell? ⟨q,0,O⟩=I (U Y tag):=Za (HQW.out wx hR) J;clear hF hO hB hR;go_simp;exact ⟨Zx (by decide) (Zr_ _ _),J⟩
    |7,_=>
     obtain rfl:=Zo_ ho;intro a wx hR hB hF hO;have f7:a.eval (.tmp 7)=E (I ⟨q,0,O⟩):=hO 7 (by kernel_rfl) (Zm (by kernel_rfl));have e7:=Tv_ f7;clear hF hO hB hR;go_simp;exact ⟨Zx (by decide) (Zr_ _ _),J⟩
    |8,_=>
     obtain rfl:=Zo_ ho;intro a wx hR hB hF hO;have e35:=Tf_ hF 35 7 (E (I ⟨q,1,O⟩));have cc:wx.cell? ⟨q,1,O⟩=I ((L ua n uc)):=Za (HQW.out wx hR) J;clear hF hO hB hR;go_simp;exact ⟨Zx (by decide) (Zr_ _ _),J⟩
    |9,_=>
     obtain rfl:=Zo_ ho;intro a wx hR hB hF hO;have f36:a.eval (.tmp 36)=(L ua n uc):=hF 36 8 _ (by kernel_rfl) J J;exact Ca 36 J (L ua n uc) n (Yl code) f36 (HEW.out wx hR) (code_one _) (by rw [HNN.out];exact HCL.out) (λ u w' h1 h2 h3=>⟨Zx (by decide) h3,h1,λ g hg=>Nat.le_trans (Nat.le_trans HN9.out hR.size) (h2 g hg)⟩)
    |10,_=>
     obtain rfl:=Zo_ ho;intro a wx hR hB hF hO;have e34:=Tf_ hF 34 6 (U Y tag);have row:Yb n9 106 3 n (Yl code) (a.eval (.tmp 37)) wx:=hF 37 9 _ (by kernel_rfl) J J;obtain ⟨ca,cc,hc⟩:=Zo row.1;rw [hc] at row;have e37:=Tv_ hc;have ROW:=Zh_ row;clear hF hO hB hR row hc;go_simp;exact ⟨Zx (by decide) (Zr_ _ _),ca,cc,J,ROW.out⟩
    |11,_=>
     obtain rfl:=Zo_ ho;intro a wx hR hB hF hO;obtain ⟨ca,cc,f38,row⟩:∃ ca cc,a.eval (.tmp 38)=A_ #[U Y tag,L ca n cc]/\Yb n9 106 3 n (Yl code) (L ca n cc) wx:=hF 38 10 _ (by kernel_rfl) J J;exact Qb 25 110 _ J #[U Y tag,L ca n cc] f38 i0 _ underlying25 hi0 hz0 (by rw [hz1];rfl) (by show 0 < 2;decide) (by show 2<=1000;decide) ⟨Zx (by decide) ((Zr_ _ _).alloc _),_,ca,cc,J,Zc _ _,Nat.le_trans HN9.out hR.size,row.mod ((Zr_ _ _).alloc _)⟩
    |12,_=>
     obtain rfl:=Zo_ ho;intro a wx hR hB hF hO;have f32:a.eval (.tmp 32)=L av z cv:=hF 32 4 _ (by kernel_rfl) J J;obtain ⟨B,ca,cc,f39,hB2,hB3,row⟩:∃ B ca cc,a.eval (.tmp 39)=L (I ⟨B,0,O⟩) 1 1/\wx.heap[B]? =I (X #[U Y tag,L ca n cc] 110 (0,0))/\n9<=B/\Yb n9 106 3 n (Yl code) (L ca n cc) wx:=hF 39 11 _ (by kernel_rfl) J J;have hnd:=hp;refine Y2 (.tmp 32) (.tmp 39) 25 J 0 110 i0 (A_ #[U Y 0,L O 0 0]) 2 32 underlying25 hi0 hz0 hz1 hz2 J (by decide) (L av z cv) z dl f32 (Yg HR7.out (((Zr_ [] w7).drew).trans (hB J))) ⟨B,0,O⟩ 1 1 [U Y tag,L ca n cc] f39 J (Ta hB2) (by intro u hu;simp at hu;rcases hu with rfl|rfl <;> rfl) (by unfold maxLen;omega) (by omega) (Nat.zero_le _) ?_;intro v' w' ho hg hat;have mg:=(Zr_ _ wx).grown hg (λ g hg=>.inl (Option.mem_toList.2 hg));refine ⟨Ht mg,_,row.jo mg HGL.out,ho,λ g hv=>?_⟩;rcases hat with e|e
     ·exact .inl (e.symm.trans hv)
     ·rw [e] at hv;simp at hv;exact .inr (by rw [<-hv];exact Nat.le_trans HN9.out hR.size)
    |13,_=>
     obtain rfl:=Zo_ ho;intro a wx hR hB hF hO;have e28:=Tf_ hF 28 0 (E (I ⟨x,0,O⟩));clear hF hO hB hR;go_simp;exact ⟨Zx (by decide) (Zr_ _ _),J⟩
    |14,_=>
     obtain rfl:=Zo_ ho;intro a wx hR hB hF hO;have e41:=Tf_ hF 41 13 (E (I ⟨x,0,O⟩));clear hF hO hB hR;go_simp;exact ⟨Zx (by decide) (Zr_ _ _),J⟩
    |j+15,hh=>omega
   ·intro vs w8 hR hv;have e14:vs 14=E (I ⟨x,4,O⟩):=hv 14 (by decide);obtain ⟨cu,hcu,ho,hat⟩:∃ cu,Yb n9 106 3 n (Yl code) cu w8/\w8.ownsRow 0 110 2 (vs 12) (z+1) (dl++[U Y tag,cu])/\∀ g,(vs 12).ownBlock=I g->(L av z cv).ownBlock=I g\/n9<=g:=hv 12 (by decide);obtain ⟨g5,cap5,e12,_⟩:=Ya ho (by omega);rw [e12] at ho hat;have X8:=HXW.out w8 hR;have x8:=Za (i:=4) X8 J;have zx8:=Zb (i:=4) X8;have HX8:=Zh_ X8;have HCU:=Zh_ hcu;have HO:=Zh_ ho;have HAT:=Zh_ hat;have H8:=Zh_ hR;clear hv ho hat hR X8 hcu;simp only [Yx,List.take_succ_cons,List.take_zero,Act.put,e12,e14];go_simp;go_upto_region 9 with fail;have m8:Ze (L av z cv).ownBlock.toList w7 w8:=((Zr_ _ w7).drew).trans H8.out;have X9:=Zd (i:=4) (L (I ⟨g5,0,O⟩) (z+1) cap5) HX8.out;rw [yset4] at X9;have m9:Ze [x] w8 (w8.setCell ⟨x,4,O⟩ (L (I ⟨g5,0,O⟩) (z+1) cap5)):=(Zr_ _ _).setCell _ _ (.inl (by simp));have B8:=Xs HB7.out (by decide) HR7.out m8;have B9:=Zh_ (m9.at B8 (by simpa using Zs B8 HX8.out (by decide)));have M9:=Zh_ ((HM7.out.then m8 (λ j hj=>.inr (HAV.out j (Option.mem_toList.1 hj)).2)).setCell ⟨x,4,O⟩ (L (I ⟨g5,0,O⟩) (z+1) cap5) (.inr HX.out));have PK8:V2 w.heap.size progs (z+1) (L (I ⟨g5,0,O⟩) (z+1) cap5) w8:=by
     refine V2.push (cu:=cu) hlt HUS.out ⟨?_,λ g hg=>?_⟩ (λ j hj=>?_) ?_
     ·rw [<-HTAG.out,<-HDL.out];exact HO.out
     ·rcases HAT.out g hg with e|e
      ·exact (HAV.out g e).2
      ·exact Nat.le_trans HN9'.out e
     ·exact ((HCODES.out j hj).mod MWH.out).kq (by decide) HR7.out m8
     ·rw [<-HCODE.out,<-HNN.out];exact HCU.out.qj HN9'.out
    have PK9:=Zh_ (PK8.jr HX8.out (by decide) (by decide) m9);have X9:=Zh_ X9;clear m8 m9 B8 PK8 x8 zx8;generalize w8.setCell ⟨x,4,O⟩ (L (I ⟨g5,0,O⟩) (z+1) cap5)=w9 at *
    go_wp2;go_roundw
    case rel=>exact ⟨z+1,by omega,by go_num,⟨_,X9.out,PK9.out⟩,B9.out,M9.out⟩
    case measure=>simp [intOf];omega
  ·have d4:decide ((z:Int) < (progs.length:Int))=false:=D9 (by omega);have b0:=Za (i:=0) hB J;have b1:=Za (i:=1) hB J;have b2:=Za (i:=2) hB J;have b3:=Za (i:=3) hB J;clear hv hK m hB;go_upto_region 10 with fail;go_wp2_with fail;refine (Ue c0 c1 c2 c3 HC.out _).mono ?_;rintro e w4 ⟨rfl,m4⟩;have hzp:z=progs.length:=by omega
   subst hzp;have X4:=(Ze.at m4 HV.out (by simp));have B4:=Zh_ (Ze.at m4 HB.out (by simp));have PK:=Zh_ (HPK.out.mod m4);have M4:=Zh_ (HM.out.trans m4);have f5:=Zb (i:=5) X4;have f6:=Zb (i:=6) X4;have f7:=Zb (i:=7) X4;have f8:=Zb (i:=8) X4;have f9:=Zb (i:=9) X4;have f10:=Zb (i:=10) X4;have y5:=Za (i:=5) X4 yget5;have y6:=Za (i:=6) X4 yget6;have y7:=Za (i:=7) X4 yget7;have y8:=Za (i:=8) X4 yget8;have y9:=Za (i:=9) X4 yget9;have y10:=Za (i:=10) X4 Rw;have HX4:=Zh_ X4;clear X4 m4 b0 b1 b2 b3 HV HB HPK HM;go_upto_region 11 with fail;have X5:=Zd (i:=5) (U Y 0) HX4.out;rw [yset5] at X5;replace X5:=Zd (i:=6) (U Y 1) X5;rw [yset6] at X5;replace X5:=Zd (i:=7) (U Y 2) X5;rw [yset7] at X5;replace X5:=Zd (i:=8) (U Y 3) X5;rw [yset8] at X5;replace X5:=Zd (i:=9) (U Y (3+c1)) X5;rw [yset9] at X5;replace X5:=Zd (i:=10) (U Y (3+c1+3 * c0)) X5;rw [yset10] at X5;have m5:Ze [x] w4 ((((((w4.setCell ⟨x,5,O⟩ (U Y 0)).setCell ⟨x,6,O⟩ (U Y 1)).setCell ⟨x,7,O⟩ (U Y 2)).setCell ⟨x,8,O⟩ (U Y 3)).setCell ⟨x,9,O⟩ (U Y (3+c1))).setCell ⟨x,10,O⟩ (U Y (3+c1+3 * c0))):=((((((Zr_ _ _).setCell _ _ (.inl (by simp))).setCell _ _ (.inl (by simp))).setCell _ _ (.inl (by simp))).setCell _ _ (.inl (by simp))).setCell _ _ (.inl (by simp))).setCell _ _ (.inl (by simp));generalize (((((w4.setCell _ _).setCell _ _).setCell _ _).setCell _ _).setCell _ _).setCell _ _=w5 at *
   have PK5:=PK.out.jr HX4.out (by decide) (by decide) m5;have B5:=m5.at B4.out (by simpa using Zs B4.out HX4.out (by decide));have M5:=M4.out.then m5 (λ j hj=>.inr (by simp at hj;rw [hj];exact HX.out));have z10:=Za (i:=10) X5 Rw;have HX5:=Zh_ X5;have HB5:=Zh_ B5;have HM5:=Zh_ M5;have HPK5:=Zh_ PK5;clear m5 PK5 B5 M5 X5 PK B4 M4 HX4 y5 y6 y7 y8 y9 y10 f5 f6 f7 f8 f9 f10 d4;go_wp2_with fail;have h1:1<=3+c1+3 * c0:=by have:=HC.out;unfold Y1 at this;omega
   have h2:3+c1+3 * c0<=4096:=by have:=HC.out;unfold Y1 at this;omega
   refine (new_e (3+c1+3 * c0) h1 h2 _).mono ?_;rintro e w6 ⟨a,b,rfl,MM,ha,hb,m6⟩;have HMM:=Zh_ MM;have HA:=Zh_ (show w.heap.size<=a from Nat.le_trans HM5.out.size ha);have HBB:=Zh_ (show w.heap.size<=b from Nat.le_trans HM5.out.size hb);have X6:=m6.at HX5.out (by simp);have B6:=Zh_ (m6.at HB5.out (by simp));have M6:=Zh_ (HM5.out.trans m6);have PK6:=Zh_ (HPK5.out.mod m6);have z11:=Za (i:=11) X6 yget11;have f11:=Zb (i:=11) X6;have HX6:=Zh_ X6;clear MM ha hb m6 X6 z10 h1 h2 HX5 HB5 HM5 HPK5;go_upto_region 12 with fail;have X7:=Zd (i:=11) (E (I ⟨a,0,O⟩)) HX6.out;rw [yset11] at X7;have m7:Ze [x] w6 (w6.setCell ⟨x,11,O⟩ (E (I ⟨a,0,O⟩))):=(Zr_ _ _).setCell _ _ (.inl (by simp));have MM7:=HMM.out.mod m7 (by simpa using Zs HMM.out.hd HX6.out (by decide)) (by simpa using Zs HMM.out.ws HX6.out (by decide));have B7:=m7.at B6.out (by simpa using Zs B6.out HX6.out (by decide));have M7:=M6.out.then m7 (λ j hj=>.inr (by simp at hj;rw [hj];exact HX.out));have PK7:=PK6.out.jr HX6.out (by decide) (by decide) m7;clear z11 f11 m7;generalize w6.setCell ⟨x,11,O⟩ (E (I ⟨a,0,O⟩))=w7 at *
   have u5:=Za (i:=5) X7 yget5;have u6:=Za (i:=6) X7 yget6;have u7:=Za (i:=7) X7 yget7;have u8:=Za (i:=8) X7 yget8;have u9:=Za (i:=9) X7 yget9;have u10:=Za (i:=10) X7 Rw;have u11:=Za (i:=11) X7 yget11;have b4:=Za (i:=4) B7 J;have HX7:=Zh_ X7;have HB7:=Zh_ B7;have HM7:=Zh_ M7;have HPK7:=Zh_ PK7;have HMM7:=Zh_ MM7;clear X7 B7 M7 PK7 MM7 HX6 B6 M6 PK6 HMM;go_still_tail 10,(by kernel_rfl);go_wp2_with fail;have hsl:start.length<=256:=by have:=HSL.out;have:=HC.out;unfold Y1 at this;omega
   have hq3:0<=3+c1:=by have:=HC.out;unfold Y1 at this;omega
   have hq4:3+c1<=4096:=by have:=HC.out;unfold Y1 at this;omega
   refine (startx_c HMM7.out.drew 0 1 2 3 (3+c1) (3+c1+3 * c0) _ HS.out HM7.out.drew HA.out HBB.out hsl hq3 hq4 (by
    have:=HSL.out;have:=HC.out;unfold Y1 at this;show _<=((List.replicate (3+c1+3 * c0).toNat (0:Int)).length:Int);rw [List.length_replicate];omega)).mono ?_;rintro e w8 ⟨rfl,MM8,m8'⟩
   have m8:Ze [a,b] w7 w8:=((Zr_ _ w7).drew).trans m8';have hxa:¬ x=a:=Zs HX7.out HMM7.out.hd (by decide);have hxb:¬ x=b:=Zs HX7.out HMM7.out.ws (by decide);have X8:=m8.at HX7.out (by simp [hxa,hxb]);have hba:¬ k=a:=Zs HB7.out HMM7.out.hd (by decide);have hbb:¬ k=b:=Zs HB7.out HMM7.out.ws (by decide);have B8:=m8.at HB7.out (by simp [hba,hbb]);have M8:=HM7.out.then m8 (λ j hj=>.inr (by simp at hj;rcases hj with rfl|rfl;exact HA.out;exact HBB.out));have PK8:V2 w.heap.size progs progs.length v w8:=by
    obtain ⟨us,q1,q2,q3⟩:=HPK7.out;have ne:∀ {t:TypeId} {z n:Nat} {xs:List Value} {v:Value},Yb w.heap.size t z n xs v w7->t≠137->t≠54->Yb w.heap.size t z n xs v w8:=λ hr h1 h2=>⟨Zt hr.1 m8 (λ g hg hm=>by
     simp at hm;have hty:=Yf hr.1 hg;rcases hm with rfl|rfl
     ·rw [Zp HMM7.out.hd] at hty;exact h1 (Zo_ hty).symm
     ·rw [Zp HMM7.out.ws] at hty;exact h2 (Zo_ hty).symm),hr.2⟩
    exact ⟨us,q1,ne q2 (by decide) (by decide),λ j hj=>ne (q3 j hj) (by decide) (by decide)⟩
   have b1:=Za (i:=1) B8 J;have HX8:=Zh_ X8;have HB8:=Zh_ B8;have HM8:=Zh_ M8;have HPK8:=Zh_ PK8;have HMM8:=Zh_ MM8;clear X8 B8 M8 PK8 MM8 m8 m8' hxa hxb hba hbb u5 u6 u7 u8 u9 u10 u11 b4 HX7 HB7 HM7 HPK7 HMM7 hsl hq3 hq4;go_wp2_with fail;have hc1:1<=c1:=by have:=HC.out;unfold Y1 at this;omega
   have hc8:c1<=8:=by have:=HC.out;unfold Y1 at this;omega
   refine (rndnew_c hc1 hc8).mono ?_;rintro e w9 ⟨r,rfl,RR,hr,m9⟩;have HRR:=Zh_ RR;have HRN:=Zh_ (show w.heap.size<=r from Nat.le_trans HM8.out.size hr);have X9:=m9.at HX8.out (by simp);have B9:=Zh_ (m9.at HB8.out (by simp));have M9:=Zh_ (HM8.out.trans m9);have PK9:=Zh_ (HPK8.out.mod m9);have MM9:=Zh_ (HMM8.out.mod m9 (by simp) (by simp));have z12:=Za (i:=12) X9 Ru;have f12:=Zb (i:=12) X9;have HX9:=Zh_ X9;clear RR hr m9 X9 b1 HX8 HB8 HM8 HPK8 HMM8;go_upto_region 14 with fail;have X10:=Zd (i:=12) (E (I ⟨r,0,O⟩)) HX9.out;rw [yset12] at X10;have m10:Ze [x] w9 (w9.setCell ⟨x,12,O⟩ (E (I ⟨r,0,O⟩))):=(Zr_ _ _).setCell _ _ (.inl (by simp));obtain ⟨rf,ro,hrr⟩:=HRR.out;have R10:Qd (w9.setCell ⟨x,12,O⟩ (E (I ⟨r,0,O⟩))) r c1:=HRR.out.mod m10 (by simpa using Zs hrr HX9.out (by decide));have MM10:=MM9.out.mod m10 (by simpa using Zs MM9.out.hd HX9.out (by decide)) (by simpa using Zs MM9.out.ws HX9.out (by decide));have B10:=m10.at B9.out (by simpa using Zs B9.out HX9.out (by decide));have M10:=M9.out.then m10 (λ j hj=>.inr (by simp at hj;rw [hj];exact HX.out));have PK10:=PK9.out.jr HX9.out (by decide) (by decide) m10;clear z12 f12 m10 hrr;generalize w9.setCell ⟨x,12,O⟩ (E (I ⟨r,0,O⟩))=w10 at *
   have NK:Be w.heap.size c0 c1 c2 c3 (Qx (.fresh (Zw c0 c1).toNat) (Z2 c1) start) progs cs x a b r 0 v (L O 0 0) [] [] w10:=
    ⟨X10,MM10,R10,PK10,rfl,rfl,⟨World.ownsRow_nil _ _ _ _,by simp [Value.ownBlock]⟩,λ t ht=>absurd ht (by omega),List.nodup_nil,λ t ht=>absurd ht (by omega),HX.out,HA.out,HBB.out,HRN.out⟩
   have HNK:=Zh_ NK;have b1:=Za (i:=1) B10 J;have HB10:=Zh_ B10;have HM10:=Zh_ M10;clear X10 MM10 R10 B10 M10 PK10 NK HX9 B9 M9 PK9 MM9 HRR rf ro;go_upto_region 15 with fail;obtain ⟨ms,hms⟩:∃ m,m=Qx (.fresh (Zw c0 c1).toNat) (Z2 c1) start:=⟨_,J⟩;rw [<-hms] at HNK;have HMS:=Zh_ hms;clear hms b1
   go_loopw [89] (λ i wx=>∃ z:Nat,z<=c1.toNat/\i=U Y z/\(∃ vt kts vcs,Be w.heap.size c0 c1 c2 c3 ms progs cs x a b r z v vt kts vcs wx)/\wx.heap[k]? =I (X #[U Y c0,U Y c1,U Y c2,U Y c3,L sa start.length ca,L ap progs.length cp,L zq cs.length ct] 28 (0,0))/\Ze [] w wx) (λ i _=>c1.toNat - (intOf i).toNat)
   case atStart=>exact ⟨0,by omega,rfl,⟨_,_,_,HNK.out⟩,HB10.out,HM10.out⟩
   case round=>
    obtain ⟨z,hz,rfl,⟨vt,kts,vcs,hNK⟩,hB,hM⟩:=hrel;have NK:=Zh_ hNK;have HB:=Zh_ hB;have HM:=Zh_ hM;clear hNK hB hM HNK HB10 HM10;generalize wr=wo at *
    by_cases hlt:z < c1.toNat
    ·have d4:decide ((z:Int) < c1)=true:=decide_eq_true (by omega);obtain ⟨n1,hn1⟩:∃ n,n=wo.heap.size:=⟨_,J⟩;have hz8:z<=8:=by omega
     go_upto_region 18 with fail;have K1:=Zc wo (.cells (Qp (L O 0 0) 0 .nilIface 0) 87);have B1:=Zf (.cells (Qp (L O 0 0) 0 .nilIface 0) 87) HB.out;have m1:Ze [] wo (wo.alloc (.cells (Qp (L O 0 0) 0 .nilIface 0) 87)):=(Zr_ _ _).alloc _;rw [<-hn1] at K1;simp only [<-hn1];unfold Qp at K1 B1 m1;generalize wo.alloc (.cells _ 87)=w1 at *
     have b6:=Za (i:=6) B1 J;have HB1:=Zh_ B1;have HK1:=Zh_ K1;have HM1:=Zh_ m1;have HN1:=Zh_ hn1;clear K1 B1 m1 hn1
     by_cases hcs:z < cs.length
     ·have d5:decide ((z:Int) < (cs.length:Int))=true:=decide_eq_true (by omega);obtain ⟨tg,tq,tu,rfl,htg,t1,t2⟩:=HT.out z hcs;obtain ⟨l,hl⟩:∃ l,l=cs.getD z []:=⟨_,J⟩;rw [<-hl] at t2;obtain ⟨la,lc,rfl,t3⟩:=t2;have t1':=Z5 (HM.out.trans HM1.out) htg (by simp) t1;have hl64:l.length<=64:=by rw [hl];exact H64.out z hcs
      have h8:∀ j,j < l.length->(l.getD j (0,[])).2.length<=8:=λ j hj=>by
       have:=HCALL.out z j hcs (by rw [<-hl];exact hj);rw [<-hl] at this;exact this.2.2
      have H8:=Zh_ h8;have HL:=Zh_ hl;have HT3:=Zh_ t3;clear t1 t3 htg hl h8;go_upto_region 20 with fail;clear t1' b6
      go_loopw [105] (λ i wx=>∃ j:Nat,j<=l.length/\i=U Y j/\(∃ v,wx.heap[n1]? =I (.cells (Qp v 0 .nilIface 0) 87 (0,0))/\Vd n1 l j v wx)/\wx.heap[k]? =I (X #[U Y c0,U Y c1,U Y c2,U Y c3,L sa start.length ca,L ap progs.length cp,L (I ⟨tg,tq,O⟩) cs.length ct] 28 (0,0))/\Ze [] wo wx) (λ i _=>l.length - (intOf i).toNat)
      case atStart=>exact ⟨0,by omega,rfl,⟨L O 0 0,HK1.out,[],rfl,⟨World.ownsRow_nil _ _ _ _,by simp [Value.ownBlock]⟩,λ j hj=>absurd hj (by omega)⟩,HB1.out,HM1.out⟩
      case round=>
       obtain ⟨j,hj,rfl,⟨v5,hv,hK⟩,hB,m⟩:=hrel
       by_cases hlj:j < l.length
       ·have d6:decide ((j:Int) < (l.length:Int))=true:=decide_eq_true (by omega);obtain ⟨h,oo,u,rfl,hh,k1,k2,k3⟩:=HT3.out j hlj;obtain ⟨us,hus,hrow,hargs⟩:=hK;obtain ⟨av,cv,rfl⟩:=Zo hrow.1;obtain ⟨prg,hprg⟩:∃ t,t=(l.getD j (0,[])).1:=⟨_,J⟩;obtain ⟨args,harg⟩:∃ t,t=(l.getD j (0,[])).2:=⟨_,J⟩;have hclen:args.length<=8:=by rw [harg];exact H8.out j hlj
        rw [<-hprg] at k1;rw [<-harg] at k3;obtain ⟨ua,uc,rfl⟩:=k3.form;have k1':=Z5 (HM.out.trans m) hh (by simp) k1;have k2':=Z5 (HM.out.trans m) hh (by simp) k2;obtain ⟨n,hn⟩:∃ n,n=args.length:=⟨_,J⟩;rw [<-hn] at k2' k3;have K3:=Zh_ k3;have HV5:=Zh_ hv;have HBx:=Zh_ hB;have HMx:=Zh_ m;have HPRG:=Zh_ hprg;have HARG:=Zh_ harg;have HCL:=Zh_ hclen;have HNN:=Zh_ hn;have HROW:=Zh_ hrow;have HUS:=Zh_ hus;have HARGS:=Zh_ hargs;clear k1 k2 k3 hprg harg hh hv hB m hrow hus hargs hclen hn;go_upto_region 22 with fail;obtain ⟨q,hq⟩:∃ q,q=wr.heap.size:=⟨_,J⟩;have Q7:=Zc wr (X #[U Y prg,L ua n uc] 63);have X7:=Zf (X #[U Y prg,L ua n uc] 63) HV5.out;have B7:=Zf (X #[U Y prg,L ua n uc] 63) HBx.out;have M7:=HMx.out.alloc (X #[U Y prg,L ua n uc] 63);have MW:=(Zr_ [] wr).alloc (X #[U Y prg,L ua n uc] 63);rw [<-hq] at Q7 ⊢
        have hav:∀ g,(L av j cv).ownBlock=I g->g < q/\n1<=g:=λ g hg=>⟨by rw [hq];exact Yr HROW.out.1 hg,HROW.out.2 g hg⟩;clear k1' k2';generalize wr.alloc (X #[U Y prg,L ua n uc] 63)=w7 at *
        have R7:=HROW.out.mod MW;have MWH:=Zh_ MW;obtain ⟨n9,hn9⟩:∃ n,n=w7.heap.size:=⟨_,J⟩;have HN9:=Zh_ (show n9<=w7.drew.heap.size from Nat.le_of_eq hn9);have HN9':=Zh_ (show n1<=n9 by rw [hn9,HN1.out];exact M7.size);have HR7:=Zh_ R7.1;have HAV:=Zh_ hav;have HGL:=Zh_ (show ∀ k∈(L av j cv).ownBlock.toList,k < n9 from λ k hk=>by rw [hn9];exact Yr R7.1 (Option.mem_toList.1 hk));have HXW:=Zh_ (show ∀ wy,Ze (L av j cv).ownBlock.toList w7.drew wy->wy.heap[n1]? =I (.cells (Qp (L av j cv) 0 .nilIface 0) 87 (0,0)) from λ wy hR=>Xs X7 (by decide) R7.1 (((Zr_ _ w7).drew).trans hR));have HQW:=Zh_ (show ∀ wy,Ze (L av j cv).ownBlock.toList w7.drew wy->wy.heap[q]? =I (X #[U Y prg,L ua n uc] 63 (0,0)) from λ wy hR=>(((Zr_ _ w7).drew).trans hR).at Q7 (λ hm=>by have:=hav _ (Option.mem_toList.1 hm);omega));have HEW:=Zh_ (show ∀ wy,Ze (L av j cv).ownBlock.toList w7.drew wy->Bg wy 1 (L ua n uc) n (args.map (Z V)) from λ wy hR=>K3.out.zy ((((HM.out.trans M7).qj _).drew).trans hR) (λ k hk=>Nat.le_trans (by rw [HN1.out];exact HM.out.size) (hav k (Option.mem_toList.1 hk)).2));have HM7:=Zh_ M7;have HX7:=Zh_ X7;have HB7:=Zh_ B7;obtain ⟨i0,hi0,hz0,hz1,hz2⟩:=info_parts info63;obtain ⟨dl,hdl⟩:∃ l',l'=Hh (l.take j) us:=⟨_,J⟩;rw [<-hdl] at HR7;have HDL:=Zh_ hdl;clear Q7 X7 B7 M7 MW hav hq R7 hn9 hdl HV5 HBx HMx;refine Q3 (by kernel_rfl) 15 (by rfl) (Ze (L av j cv).ownBlock.toList) (Kf (L av j cv).ownBlock.toList 12) 12 (Ze [] w7.drew) (newF n1 0 q n9 av cv j dl prg (L ua n uc) 51 1 n (args.map (Z V)) 63) (by kernel_rfl) (by rfl) (by kernel_rfl) (Wq n1 0 q n9 av cv j dl prg (L ua n uc) 51 1 n (args.map (Z V)) 63 HGL.out) (λ i a b h=>Xn h) (λ j a b hj h k=>k.trans (Xr hj h)) (Zr_ _ _) (λ a=>Zr_ _ _) (λ a b c h k=>h.trans k) (λ i v w' hv o ho hd=>Vi (m:=15) (by kernel_rfl) (Ll n1 0 q n9 av cv j dl prg (L ua n uc) 51 1 n (args.map (Z V)) 63) ho hd) ?_ ?_
        ·intro i o hi ho
         match i,hi with
         |0,_=>
          obtain rfl:=Zo_ ho;intro a wx hR hB hF hO;have f9:a.eval (.tmp 9)=E (I ⟨n1,0,O⟩):=hO 9 (by kernel_rfl) (Zm (by kernel_rfl));have e9:=Tv_ f9;clear hF hO hB hR;go_simp;exact ⟨Zx (by decide) (Zr_ _ _),J⟩
         |1,_=>
          obtain rfl:=Zo_ ho;intro a wx hR hB hF hO;have e9:=To_ hO 9 (E (I ⟨n1,0,O⟩));clear hF hO hB hR;go_simp;exact ⟨Zx (by decide) (Zr_ _ _),J⟩
         |2,_=>
          obtain rfl:=Zo_ ho;intro a wx hR hB hF hO;have e110:=Tf_ hF 110 1 (E (I ⟨n1,0,O⟩));clear hF hO hB hR;go_simp;exact ⟨Zx (by decide) (Zr_ _ _),J⟩
         |3,_=>
          obtain rfl:=Zo_ ho;intro a wx hR hB hF hO;have e111:=Tf_ hF 111 2 (E (I ⟨n1,0,O⟩));clear hF hO hB hR;go_simp;exact ⟨Zx (by decide) (Zr_ _ _),J⟩
         |4,_=>
          obtain rfl:=Zo_ ho;intro a wx hR hB hF hO;have e112:=Tf_ hF 112 3 (E (I ⟨n1,0,O⟩));have cc:wx.cell? ⟨n1,0,O⟩=I (L av j cv):=Za (HXW.out wx hR) J;clear hF hO hB hR;go_simp;exact ⟨Zx (by decide) (Zr_ _ _),J⟩
         |5,_=>
          obtain rfl:=Zo_ ho;intro a wx hR hB hF hO;have f11:a.eval (.tmp 11)=E (I ⟨q,0,O⟩):=hO 11 (by kernel_rfl) (Zm (by kernel_rfl));have e11:=Tv_ f11;clear hF hO hB hR;go_simp;exact ⟨Zx (by decide) (Zr_ _ _),J⟩
         |6,_=>
          obtain rfl:=Zo_ ho;intro a wx hR hB hF hO;have e114:=Tf_ hF 114 5 (E (I ⟨q,0,O⟩));have cc:wx.cell? ⟨q,0,O⟩=I (U Y prg):=Za (HQW.out wx hR) J;clear hF hO hB hR;go_simp;exact ⟨Zx (by decide) (Zr_ _ _),J⟩
         |7,_=>
          obtain rfl:=Zo_ ho;intro a wx hR hB hF hO;have e11:=To_ hO 11 (E (I ⟨q,0,O⟩));clear hF hO hB hR;go_simp;exact ⟨Zx (by decide) (Zr_ _ _),J⟩
         |8,_=>
          obtain rfl:=Zo_ ho;intro a wx hR hB hF hO;have e116:=Tf_ hF 116 7 (E (I ⟨q,1,O⟩));have cc:wx.cell? ⟨q,1,O⟩=I ((L ua n uc)):=Za (HQW.out wx hR) J;clear hF hO hB hR;go_simp;exact ⟨Zx (by decide) (Zr_ _ _),J⟩
         |9,_=>
          obtain rfl:=Zo_ ho;intro a wx hR hB hF hO;have f117:a.eval (.tmp 117)=(L ua n uc):=hF 117 8 _ (by kernel_rfl) J J;exact Lw 117 J (L ua n uc) n (args.map (Z V)) f117 (HEW.out wx hR) (Hz _) (by rw [HNN.out];have:=HCL.out;omega) (λ u w' h1 h2 h3=>⟨Zx (by decide) h3,h1,λ g hg=>Nat.le_trans (Nat.le_trans HN9.out hR.size) (h2 g hg)⟩)
         |10,_=>
          obtain rfl:=Zo_ ho;intro a wx hR hB hF hO;have e115:=Tf_ hF 115 6 (U Y prg);have row:Yb n9 51 1 n (args.map (Z V)) (a.eval (.tmp 118)) wx:=hF 118 9 _ (by kernel_rfl) J J;obtain ⟨ca,cc,hc⟩:=Zo row.1;rw [hc] at row;have e118:=Tv_ hc;have ROW:=Zh_ row;clear hF hO hB hR row hc;go_simp;exact ⟨Zx (by decide) (Zr_ _ _),ca,cc,J,ROW.out⟩
         |11,_=>
          obtain rfl:=Zo_ ho;intro a wx hR hB hF hO;obtain ⟨ca,cc,f119,row⟩:∃ ca cc,a.eval (.tmp 119)=A_ #[U Y prg,L ca n cc]/\Yb n9 51 1 n (args.map (Z V)) (L ca n cc) wx:=hF 119 10 _ (by kernel_rfl) J J;exact Qb 61 63 _ J #[U Y prg,L ca n cc] f119 i0 _ underlying61 hi0 hz0 (by rw [hz1];rfl) (by show 0 < 2;decide) (by show 2<=1000;decide) ⟨Zx (by decide) ((Zr_ _ _).alloc _),_,ca,cc,J,Zc _ _,Nat.le_trans HN9.out hR.size,row.mod ((Zr_ _ _).alloc _)⟩
         |12,_=>
          obtain rfl:=Zo_ ho;intro a wx hR hB hF hO;have f113:a.eval (.tmp 113)=L av j cv:=hF 113 4 _ (by kernel_rfl) J J;obtain ⟨B,ca,cc,f120,hB2,hB3,row⟩:∃ B ca cc,a.eval (.tmp 120)=L (I ⟨B,0,O⟩) 1 1/\wx.heap[B]? =I (X #[U Y prg,L ca n cc] 63 (0,0))/\n9<=B/\Yb n9 51 1 n (args.map (Z V)) (L ca n cc) wx:=hF 120 11 _ (by kernel_rfl) J J;have hnd:=hl64;refine Y2 (.tmp 113) (.tmp 120) 61 J 0 63 i0 (A_ #[U Y 0,L O 0 0]) 2 32 underlying61 hi0 hz0 hz1 hz2 J (by decide) (L av j cv) j dl f113 (Yg HR7.out (((Zr_ [] w7).drew).trans (hB J))) ⟨B,0,O⟩ 1 1 [U Y prg,L ca n cc] f120 J (Ta hB2) (by intro u hu;simp at hu;rcases hu with rfl|rfl <;> rfl) (by unfold maxLen;omega) (by omega) (Nat.zero_le _) ?_;intro v' w' ho hg hat;have mg:=(Zr_ _ wx).grown hg (λ g hg=>.inl (Option.mem_toList.2 hg));refine ⟨Ht mg,_,row.jo mg HGL.out,ho,λ g hv=>?_⟩;rcases hat with e|e
          ·exact .inl (e.symm.trans hv)
          ·rw [e] at hv;simp at hv;exact .inr (by rw [<-hv];exact Nat.le_trans HN9.out hR.size)
         |13,_=>
          obtain rfl:=Zo_ ho;intro a wx hR hB hF hO;have e109:=Tf_ hF 109 0 (E (I ⟨n1,0,O⟩));clear hF hO hB hR;go_simp;exact ⟨Zx (by decide) (Zr_ _ _),J⟩
         |14,_=>
          obtain rfl:=Zo_ ho;intro a wx hR hB hF hO;have e122:=Tf_ hF 122 13 (E (I ⟨n1,0,O⟩));clear hF hO hB hR;go_simp;exact ⟨Zx (by decide) (Zr_ _ _),J⟩
         |j+15,hh=>omega
        ·intro vs w8 hR hv;have e14:vs 14=E (I ⟨n1,0,O⟩):=hv 14 (by decide);obtain ⟨cu,hcu,ho,hat⟩:∃ cu,Yb n9 51 1 n (args.map (Z V)) cu w8/\w8.ownsRow 0 63 2 (vs 12) (j+1) (dl++[U Y prg,cu])/\∀ g,(vs 12).ownBlock=I g->(L av j cv).ownBlock=I g\/n9<=g:=hv 12 (by decide);obtain ⟨g5,cap5,e12,_⟩:=Ya ho (by omega);rw [e12] at ho hat;have X8:=HXW.out w8 hR;have x8:=Za (i:=0) X8 J;have zx8:=Zb (i:=0) X8;have HX8:=Zh_ X8;have HCU:=Zh_ hcu;have HO:=Zh_ ho;have HAT:=Zh_ hat;have H8:=Zh_ hR;clear hv ho hat hR X8 hcu;simp only [Yx,List.take_succ_cons,List.take_zero,Act.put,e12,e14];go_simp;go_upto_region 23 with fail;have m8:Ze (L av j cv).ownBlock.toList w7 w8:=((Zr_ _ w7).drew).trans H8.out;have X9:=Zd (i:=0) (L (I ⟨g5,0,O⟩) (j+1) cap5) HX8.out;have m9:Ze [n1] w8 (w8.setCell ⟨n1,0,O⟩ (L (I ⟨g5,0,O⟩) (j+1) cap5)):=(Zr_ _ _).setCell _ _ (.inl (by simp));have B8:=Xs HB7.out (by decide) HR7.out m8;have B9:=Zh_ (m9.at B8 (by simpa using Zs B8 HX8.out (by decide)));have M9:=Zh_ ((HM7.out.then m8 (λ i hi=>.inr (by rw [<-HN1.out];exact (HAV.out i (Option.mem_toList.1 hi)).2))).setCell ⟨n1,0,O⟩ (L (I ⟨g5,0,O⟩) (j+1) cap5) (.inr (Nat.le_of_eq HN1.out.symm)));have PK8:Vd n1 l (j+1) (L (I ⟨g5,0,O⟩) (j+1) cap5) w8:=by
          refine Vd.push (cu:=cu) hlj HUS.out ⟨?_,λ g hg=>?_⟩ (λ i hi=>?_) ?_
          ·rw [<-HPRG.out,<-HDL.out];exact HO.out
          ·rcases HAT.out g hg with e|e
           ·exact (HAV.out g e).2
           ·exact Nat.le_trans HN9'.out e
          ·exact ((HARGS.out i hi).mod MWH.out).kq (by decide) HR7.out m8
          ·rw [<-HARG.out,<-HNN.out];exact HCU.out.qj HN9'.out
         have PK9:=Zh_ (PK8.jr HX8.out (by decide) (by decide) m9);have X9:=Zh_ X9;clear m8 m9 B8 PK8 x8 zx8;generalize w8.setCell ⟨n1,0,O⟩ (L (I ⟨g5,0,O⟩) (j+1) cap5)=w9 at *
         go_wp2;go_roundw
         case rel=>exact ⟨j+1,by omega,by go_num,⟨_,X9.out,PK9.out⟩,B9.out,M9.out⟩
         case measure=>simp [intOf];omega
       ·have d6:decide ((j:Int) < (l.length:Int))=false:=D9 (by omega);obtain rfl:j=l.length:=by omega
        have HV:=Zh_ hv;have HCK:=Zh_ (show Vd n1 (cs.getD z []) (cs.getD z []).length v5 wr by rw [<-HL.out];exact hK);have HBx:=Zh_ hB;have HMx:=Zh_ m;clear hv hK hB m;obtain ⟨us,hus,hrow,hargs⟩:=HCK.out;obtain ⟨cva,cvc,hcv⟩:=Zo hrow.1;obtain ⟨vv,hvv⟩:∃ y:Value,y=v5:=⟨_,J⟩;rw [<-hvv] at HV HCK hcv;clear hus hrow hargs hvv us;subst hcv;have NK1:=NK.out.mod HMx.out;obtain ⟨ta,tc,hvt⟩:=Zo NK1.zu.1;subst hvt;have c13:=Za (i:=13) NK1.hx Tr;have f13:=Zb (i:=13) NK1.hx;have hrw:=NK1.zu.1;obtain ⟨i0,hi0,hz0,hz1,hz2⟩:=info_parts info83;have HRW:=Zh_ hrw;have HNX:=Zh_ NK1;have hxl:=lt_of_block NK1.hx;clear NK1;go_wp2_with (at_builtin;refine wpList_append_own_at _ J _ _ 77 J 0 83 i0 (E O) 1 8 underlying77 hi0 hz0 hz1 hz2 J (by decide) _ _ _ J (hrw.alloc _) ⟨(wr).heap.size,0,O⟩ 1 1 [E (I ⟨n1,0,O⟩)] J J ?CA ?CB ?CC ?CD ?CE ?_)
        case CA=>exact cell_one_new _ _ _
        case CB=>intro u hu;simp at hu;subst hu;rfl
        case CC=>unfold maxLen;omega
        case CD=>omega
        case CE=>exact Nat.zero_le _
        intro u' w9 ho hg _ hat;have mal:Ze [] (wr) ((wr).alloc (X #[E (I ⟨n1,0,O⟩)] 83)):=(Zr_ _ _).alloc _;have mbl:Ze (L ta z tc).ownBlock.toList ((wr).alloc (X #[E (I ⟨n1,0,O⟩)] 83)) w9:=(Zr_ _ _).grown hg (λ g hg=>.inl (Option.mem_toList.2 hg));obtain ⟨gv,cvv,hvv,_⟩:=Ya ho (by omega);subst hvv;have X9:=Xs (mal.at HNX.out.hx (by simp)) (by decide) (Yg HRW.out mal) mbl;have y13:=Za (i:=13) X9 Tr;have g13:=Zb (i:=13) X9;have HMA:=Zh_ mal;have HMB:=Zh_ mbl;have HOO:=Zh_ ho;have HAT:=Zh_ hat;clear c13 f13 hrw hi0 hz0 hz1 hz2 hxl mal mbl ho hg hat X9;go_upto_region 25 with fail;have NKn:Be w.heap.size c0 c1 c2 c3 ms progs cs x a b r (z+1) v (L (I ⟨gv,0,O⟩) (z+1) cvv) (kts++[n1]) (vcs++[L cva (cs.getD z []).length cvc]) (w9.setCell ⟨x,13,O⟩ (L (I ⟨gv,0,O⟩) (z+1) cvv)):=by
         have hsz:w.heap.size<=wo.heap.size:=HM.out.size;refine NK.out.push (wa:=(wr).alloc (X #[E (I ⟨n1,0,O⟩)] 83)) (HMx.out.trans HMA.out) (HMA.out.at HV.out (by simp)) (Nat.le_of_eq HN1.out.symm) hsz ((HCK.out.qj (by rw [HN1.out];exact hsz)).mod HMA.out) HMB.out HOO.out ?_;intro g hg;rcases HAT.out with e|e
         ·exact .inl (e.symm.trans hg)
         ·rw [e] at hg;simp only [Option.some.injEq] at hg;exact .inr (by rw [World.size_alloc];omega)
        have B9:(w9.setCell ⟨x,13,O⟩ (L (I ⟨gv,0,O⟩) (z+1) cvv)).heap[k]? =I (X #[U Y c0,U Y c1,U Y c2,U Y c3,L sa start.length ca,L ap progs.length cp,L (I ⟨tg,tq,O⟩) cs.length ct] 28 (0,0)):=by
         have b1:=Xs (HMA.out.at HBx.out (by simp)) (by decide) (Yg HRW.out HMA.out) HMB.out;have x1:=Xs (HMA.out.at HNX.out.hx (by simp)) (by decide) (Yg HRW.out HMA.out) HMB.out;exact Zr _ b1 (Zs b1 x1 (by decide))
        have M9:Ze [] w (w9.setCell ⟨x,13,O⟩ (L (I ⟨gv,0,O⟩) (z+1) cvv)):=
         ((((HM.out.trans HMx.out).trans HMA.out).then HMB.out (λ j hj=>.inr (HNX.out.zu.2 j (Option.mem_toList.1 hj))))).setCell _ _ (.inr HX.out)
        have K9:(w9.setCell ⟨x,13,O⟩ (L (I ⟨gv,0,O⟩) (z+1) cvv)).heap[n1]? =I (.cells (Qp (L cva (cs.getD z []).length cvc) 0 .nilIface 0) 87 (0,0)):=by
         have b1:=Xs (HMA.out.at HV.out (by simp)) (by decide) (Yg HRW.out HMA.out) HMB.out;have x1:=Xs (HMA.out.at HNX.out.hx (by simp)) (by decide) (Yg HRW.out HMA.out) HMB.out;exact Zr _ b1 (Zs b1 x1 (by decide))
        clear y13 g13 HMA HMB HOO HAT HRW HNX HBx HMx HV HCK HM1 HB1 HK1;generalize w9.setCell ⟨x,13,O⟩ (L (I ⟨gv,0,O⟩) (z+1) cvv)=w10 at *
        have HNK:=Zh_ NKn;have HB9:=Zh_ B9;have HM9:=Zh_ M9;have hfn:=Cb K9;obtain ⟨nn,hnn⟩:∃ n,n=(cs.getD z []).length:=⟨_,J⟩;rw [<-hnn] at hfn;unfold Xy at hfn;clear NKn B9 M9 K9 hnn;go_wp2_with fail;refine hfn.mono ?_;rintro e w11 ⟨rfl,m11⟩;have NK11:=HNK.out.mod m11;have B11:=Zh_ (m11.at HB9.out (by simp));have M11:=Zh_ (HM9.out.trans m11);have c12:=Za (i:=12) NK11.hx Ru;have hR:=NK11.j4;have HR:=Zh_ hR;have HNK11:=Zh_ NK11;have hc8:c1<=8:=by have:=HC.out;unfold Y1 at this;omega
        clear hfn m11 NK11 HNK HB9 HM9 hR;obtain ⟨fb,hfb⟩:∃ b,b=(0==nn):=⟨_,J⟩;rw [<-hfb];clear hfb;cases fb
        case true=>
         unfold Xy at c12;go_wp2_with fail;refine (No HR.out z (by omega) (by omega) hc8).mono ?_;rintro e w12 ⟨rfl,R12,m12⟩;have NK12:=Zh_ (HNK11.out.round R12 m12);have hrk:¬ k=r:=by
          obtain ⟨f,o,hrr⟩:=HR.out;exact Zs B11.out hrr (by decide)
         have B12:=Zh_ (m12.at B11.out (by simpa using hrk));have M12:=Zh_ (M11.out.then m12 (λ j hj=>.inr (by simp at hj;rw [hj];exact HNK11.out.nr)));clear R12 m12 hrk c12;go_wp2;go_roundw
         case rel=>exact ⟨z+1,by omega,by go_num,⟨_,_,_,NK12.out⟩,B12.out,M12.out⟩
         case measure=>simp [intOf];omega
        case false=>
         clear c12;go_wp2;go_roundw
         case rel=>exact ⟨z+1,by omega,by go_num,⟨_,_,_,HNK11.out⟩,B11.out,M11.out⟩
         case measure=>simp [intOf];omega
     ·have d5:decide ((z:Int) < (cs.length:Int))=false:=D9 (by omega);have HV:=HK1;have HCK:=Zh_ (show Vd n1 (cs.getD z []) (cs.getD z []).length (L O 0 0) w1 by
       have e:cs.getD z []=[]:=by rw [G_,List.getElem?_eq_none (by omega)];rfl
       rw [e];exact ⟨[],J,⟨World.ownsRow_nil _ _ _ _,by simp [Value.ownBlock]⟩,λ j hj=>absurd hj (by simp)⟩)
      have HBx:=HB1;have HMx:=HM1;obtain ⟨us,hus,hrow,hargs⟩:=HCK.out;obtain ⟨cva,cvc,hcv⟩:=Zo hrow.1;obtain ⟨vv,hvv⟩:∃ y:Value,y=(L O 0 0):=⟨_,J⟩;rw [<-hvv] at HV HCK hcv;clear hus hrow hargs hvv us;subst hcv;have NK1:=NK.out.mod HMx.out;obtain ⟨ta,tc,hvt⟩:=Zo NK1.zu.1;subst hvt;have c13:=Za (i:=13) NK1.hx Tr;have f13:=Zb (i:=13) NK1.hx;have hrw:=NK1.zu.1;obtain ⟨i0,hi0,hz0,hz1,hz2⟩:=info_parts info83;have HRW:=Zh_ hrw;have HNX:=Zh_ NK1;have hxl:=lt_of_block NK1.hx;clear NK1;go_wp2_with (at_builtin;refine wpList_append_own_at _ J _ _ 77 J 0 83 i0 (E O) 1 8 underlying77 hi0 hz0 hz1 hz2 J (by decide) _ _ _ J (hrw.alloc _) ⟨(w1).heap.size,0,O⟩ 1 1 [E (I ⟨n1,0,O⟩)] J J ?CA ?CB ?CC ?CD ?CE ?_)
      case CA=>exact cell_one_new _ _ _
      case CB=>intro u hu;simp at hu;subst hu;rfl
      case CC=>unfold maxLen;omega
      case CD=>omega
      case CE=>exact Nat.zero_le _
      intro u' w9 ho hg _ hat;have mal:Ze [] (w1) ((w1).alloc (X #[E (I ⟨n1,0,O⟩)] 83)):=(Zr_ _ _).alloc _;have mbl:Ze (L ta z tc).ownBlock.toList ((w1).alloc (X #[E (I ⟨n1,0,O⟩)] 83)) w9:=(Zr_ _ _).grown hg (λ g hg=>.inl (Option.mem_toList.2 hg));obtain ⟨gv,cvv,hvv,_⟩:=Ya ho (by omega);subst hvv;have X9:=Xs (mal.at HNX.out.hx (by simp)) (by decide) (Yg HRW.out mal) mbl;have y13:=Za (i:=13) X9 Tr;have g13:=Zb (i:=13) X9;have HMA:=Zh_ mal;have HMB:=Zh_ mbl;have HOO:=Zh_ ho;have HAT:=Zh_ hat;clear c13 f13 hrw hi0 hz0 hz1 hz2 hxl mal mbl ho hg hat X9;go_upto_region 25 with fail;have NKn:Be w.heap.size c0 c1 c2 c3 ms progs cs x a b r (z+1) v (L (I ⟨gv,0,O⟩) (z+1) cvv) (kts++[n1]) (vcs++[L cva (cs.getD z []).length cvc]) (w9.setCell ⟨x,13,O⟩ (L (I ⟨gv,0,O⟩) (z+1) cvv)):=by
       have hsz:w.heap.size<=wo.heap.size:=HM.out.size;refine NK.out.push (wa:=(w1).alloc (X #[E (I ⟨n1,0,O⟩)] 83)) (HMx.out.trans HMA.out) (HMA.out.at HV.out (by simp)) (Nat.le_of_eq HN1.out.symm) hsz ((HCK.out.qj (by rw [HN1.out];exact hsz)).mod HMA.out) HMB.out HOO.out ?_;intro g hg;rcases HAT.out with e|e
       ·exact .inl (e.symm.trans hg)
       ·rw [e] at hg;simp only [Option.some.injEq] at hg;exact .inr (by rw [World.size_alloc];omega)
      have B9:(w9.setCell ⟨x,13,O⟩ (L (I ⟨gv,0,O⟩) (z+1) cvv)).heap[k]? =I (X #[U Y c0,U Y c1,U Y c2,U Y c3,L sa start.length ca,L ap progs.length cp,L zq cs.length ct] 28 (0,0)):=by
       have b1:=Xs (HMA.out.at HBx.out (by simp)) (by decide) (Yg HRW.out HMA.out) HMB.out;have x1:=Xs (HMA.out.at HNX.out.hx (by simp)) (by decide) (Yg HRW.out HMA.out) HMB.out;exact Zr _ b1 (Zs b1 x1 (by decide))
      have M9:Ze [] w (w9.setCell ⟨x,13,O⟩ (L (I ⟨gv,0,O⟩) (z+1) cvv)):=
       ((((HM.out.trans HMx.out).trans HMA.out).then HMB.out (λ j hj=>.inr (HNX.out.zu.2 j (Option.mem_toList.1 hj))))).setCell _ _ (.inr HX.out)
      have K9:(w9.setCell ⟨x,13,O⟩ (L (I ⟨gv,0,O⟩) (z+1) cvv)).heap[n1]? =I (.cells (Qp (L cva (cs.getD z []).length cvc) 0 .nilIface 0) 87 (0,0)):=by
       have b1:=Xs (HMA.out.at HV.out (by simp)) (by decide) (Yg HRW.out HMA.out) HMB.out;have x1:=Xs (HMA.out.at HNX.out.hx (by simp)) (by decide) (Yg HRW.out HMA.out) HMB.out;exact Zr _ b1 (Zs b1 x1 (by decide))
      clear y13 g13 HMA HMB HOO HAT HRW HNX HBx HMx HV HCK HM1 HB1 HK1;generalize w9.setCell ⟨x,13,O⟩ (L (I ⟨gv,0,O⟩) (z+1) cvv)=w10 at *
      have HNK:=Zh_ NKn;have HB9:=Zh_ B9;have HM9:=Zh_ M9;have hfn:=Cb K9;obtain ⟨nn,hnn⟩:∃ n,n=(cs.getD z []).length:=⟨_,J⟩;rw [<-hnn] at hfn;unfold Xy at hfn;clear NKn B9 M9 K9 hnn;go_wp2_with fail;refine hfn.mono ?_;rintro e w11 ⟨rfl,m11⟩;have NK11:=HNK.out.mod m11;have B11:=Zh_ (m11.at HB9.out (by simp));have M11:=Zh_ (HM9.out.trans m11);have c12:=Za (i:=12) NK11.hx Ru;have hR:=NK11.j4;have HR:=Zh_ hR;have HNK11:=Zh_ NK11;have hc8:c1<=8:=by have:=HC.out;unfold Y1 at this;omega
      clear hfn m11 NK11 HNK HB9 HM9 hR;obtain ⟨fb,hfb⟩:∃ b,b=(0==nn):=⟨_,J⟩;rw [<-hfb];clear hfb;cases fb
      case true=>
       unfold Xy at c12;go_wp2_with fail;refine (No HR.out z (by omega) (by omega) hc8).mono ?_;rintro e w12 ⟨rfl,R12,m12⟩;have NK12:=Zh_ (HNK11.out.round R12 m12);have hrk:¬ k=r:=by
        obtain ⟨f,o,hrr⟩:=HR.out;exact Zs B11.out hrr (by decide)
       have B12:=Zh_ (m12.at B11.out (by simpa using hrk));have M12:=Zh_ (M11.out.then m12 (λ j hj=>.inr (by simp at hj;rw [hj];exact HNK11.out.nr)));clear R12 m12 hrk c12;go_wp2;go_roundw
       case rel=>exact ⟨z+1,by omega,by go_num,⟨_,_,_,NK12.out⟩,B12.out,M12.out⟩
       case measure=>simp [intOf];omega
      case false=>
       clear c12;go_wp2;go_roundw
       case rel=>exact ⟨z+1,by omega,by go_num,⟨_,_,_,HNK11.out⟩,B11.out,M11.out⟩
       case measure=>simp [intOf];omega
    ·have d4:decide ((z:Int) < c1)=false:=D9 (by omega);obtain rfl:z=c1.toNat:=by omega
     go_wp2;go_ret2;exact ⟨x,a,b,r,v,vt,kts,vcs,J,by rw [<-HMS.out];exact NK.out,HM.out⟩
end
end Go.Proofs.YtkhonmhnchdpkaaGreat
