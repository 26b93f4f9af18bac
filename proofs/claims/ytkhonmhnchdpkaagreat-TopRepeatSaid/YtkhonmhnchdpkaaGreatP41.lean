/- A part of the proof; no condition. -/
import Derived.Test.YtkhonmhnchdpkaaGreatP40
set_option maxRecDepth 100000
set_option maxHeartbeats 40000000
namespace Go.Proofs.YtkhonmhnchdpkaaGreat
open Go.RowKit _root_.Go.Proofs.Tryz
section
attribute [local go_sem] Zj
variable {w w0 w':World} {v:Value} {c0 c1 c2 c3:Int} {start:List Nat} {progs:List (Int×List Xf)} {cs:List (List (Int×List Nat))}
theorem Cq {len:Nat} {sa:Option Addr} {sc:Nat} (hr:Yr c0 c1 c2 c3 start.length progs.length cs≠0) (h:Ka w v c0 c1 c2 c3 start progs cs):
  Calls Tryz.prog 4 #[v,.slice sa len sc] w λ e w'=>e=.returned (.bool true)/\Ze [] w w':=by
 have HB:=Zh_ (λ (wx:World) (m:Ze [] w wx)=>Lz hr (h.mod m));obtain ⟨vs,vp,vt,rfl,-,-,-⟩:=h.f;clear h hr;go_enter func4,ntmps4;go_wp2_with fail;refine live_c.mono ?_;rintro e w1 ⟨rfl,m1⟩;have M1:=Zh_ (((Zr_ _ w).alloc (.cells #[.int .i64 c0,.int .i64 c1,.int .i64 c2,.int .i64 c3,vs,vp,vt] 28)).trans m1);have B1:=m1.at (Zc w (.cells #[.int .i64 c0,.int .i64 c1,.int .i64 c2,.int .i64 c3,vs,vp,vt] 28)) (by simp);have b0:=Za (i:=0) B1 rfl;have b1:=Za (i:=1) B1 rfl;have b2:=Za (i:=2) B1 rfl;have b3:=Za (i:=3) B1 rfl;have b4:=Za (i:=4) B1 rfl;have b5:=Za (i:=5) B1 rfl;have b6:=Za (i:=6) B1 rfl;clear m1 B1;go_wp2_with fail;refine Calls.mono (HB.out _ M1.out) ?_;rintro e w2 ⟨rfl,m2⟩;have M2:=Zh_ (M1.out.trans m2);clear m2 b0 b1 b2 b3 b4 b5 b6;go_wp2;go_ret;exact ⟨rfl,M2.out⟩
theorem S3 {l:List (Int×Nat)} {a:Option Addr} {c:Nat} (h:w.ownsRow 0 53 2 (.slice a l.length c) l.length (Yh l)):
  ∀ i,i < l.length->∃ g,a=some ⟨g,0,none⟩/\g < w.heap.size/\l.length<=c/\w.cell? ⟨g,i * 2,none⟩=some (.int .i64 (l.getD i (0,0)).1)/\w.cell? ⟨g,i * 2+1,none⟩=some (.float .f64 (l.getD i (0,0)).2):=by
 intro i hi;obtain ⟨h1,h2⟩:=Dm hi;obtain ⟨g,e,hg,q1⟩:=Hj h (by decide) (i * 2) (by omega);obtain ⟨g',e',-,q2⟩:=Hj h (by decide) (i * 2+1) (by omega);rw [e] at e';simp only [Option.some.injEq,Addr.mk.injEq,and_true] at e';subst e';have hc:l.length<=c:=by
  rcases h.2 with ⟨hv,h0⟩|⟨g',cap,cur,hv,-,-,hn,-⟩
  ·omega
  ·simp only [Value.slice.injEq,true_and] at hv;omega
 exact ⟨g,e,hg,hc,by rw [q1,h1],by rw [q2,h2]⟩
theorem Tc {a:Addr} {u:Value} (h:w.cell? a=some u):a.block < w.heap.size:=by
 unfold World.cell? at h;rcases Nat.lt_or_ge a.block w.heap.size with q|q
 ·exact q
 ·simp [Array.getElem?_eq_none q] at h
theorem Ak {l:List Int} {vl:Value} (hk:P3 c0 c1 c2 c3 start.length progs.length cs) (hpl:∀ p∈progs,p.2.length<=5864062014635) (h:Ka w v c0 c1 c2 c3 start progs cs) (hl:Dh w vl l):
  Calls Tryz.prog 4 #[v,vl] w λ e w'=>e=.returned (.bool true)/\Ze [] w w':=by
 have HB:=Zh_ (λ (wx:World) (m:Ze [] w wx)=>Wx hk hpl (h.mod m));obtain ⟨vs,vp,vt,rfl,-,-,-⟩:=h.f;have HLI:=Zh_ hl;have HCF:=Zh_ hk.cf;obtain ⟨sa,sc,rfl,-⟩:=hl;clear h hk hpl;go_enter func4,ntmps4;go_wp2_with fail;refine live_c.mono ?_;rintro e w1 ⟨rfl,m1⟩;have M1:=Zh_ (((Zr_ _ w).alloc (.cells #[.int .i64 c0,.int .i64 c1,.int .i64 c2,.int .i64 c3,vs,vp,vt] 28)).trans m1);have B1:=m1.at (Zc w (.cells #[.int .i64 c0,.int .i64 c1,.int .i64 c2,.int .i64 c3,vs,vp,vt] 28)) (by simp);have b0:=Za (i:=0) B1 rfl;have b1:=Za (i:=1) B1 rfl;have b2:=Za (i:=2) B1 rfl;have b3:=Za (i:=3) B1 rfl;have b4:=Za (i:=4) B1 rfl;have b5:=Za (i:=5) B1 rfl;have b6:=Za (i:=6) B1 rfl;clear m1 B1;go_wp2_with fail;refine Calls.mono (HB.out _ M1.out) ?_;rintro e w2 ⟨x,wz,rfl,m2,mz,G⟩;have M2:=Zh_ (M1.out.trans m2);have HG:=Zh_ G;have HMZ:=Zh_ (M1.out.trans mz);clear m2 mz G b0 b1 b2 b3 b4 b5 b6
 by_cases hlen:4000 < l.length
 ·have d1:decide ((l.length:Int) > 4000)=true:=decide_eq_true (by omega);go_wp2;go_ret;exact ⟨rfl,M2.out⟩
 have d1:decide ((l.length:Int) > 4000)=false:=decide_eq_false (by omega);go_wp2_with fail;refine (HG.out.run_c (HLI.out.mod M2.out) (by omega) (by simp;omega)).mono ?_;rintro e w3 ⟨nr,s,rfl,G3⟩;have HG3:=Zh_ G3;have hlt3:([]++Q9 (U1 c0 c1 c2 c3 start progs cs).ths.length l).length < 1000000000:=by simp [Q9];omega
 obtain ⟨hsi,hln⟩:=HG3.out.siS hlt3;obtain ⟨ds,hds⟩:∃ d,d=s.view:=⟨_,rfl⟩;have hdl:∀ k,k < ds.length->Nh (Sc ds k)/\(Sc ds k).reads.length<=4096:=by
  intro k hk;have hm:Sc ds k∈s.view:=by rw [<-hds];unfold Sc;exact Hn hk
  exact ⟨HG3.out.cons (newE_ri HCF.out) hlt3 _ hm,(hln.view HG3.out.okS.1 _ hm).r⟩
 have HLAW:=Zh_ hdl;have hdn:ds.length<=4000:=by
  have h1:=HG3.out.run.steps;have h2:=HG3.out.okS.1.st;have h3:=HG3.out.z;have h4:([]++Q9 (U1 c0 c1 c2 c3 start progs cs).ths.length l).length=l.length:=by simp [Q9]
  have h5:ds.length=s.txs.length:=by rw [hds];unfold Zq.view;simp
  rw [h3,h4] at h1;omega
 have C10:=HG3.out.deeds_c hlt3;rw [<-hds] at C10;have M3:=Zh_ (HMZ.out.trans HG3.out.fr);clear hsi hln hdl hlt3 hds;go_wp2_with fail;refine C10.mono ?_;rintro e w4 ⟨u,es,rfl,O,m4⟩;have M4:=Zh_ (M3.out.trans m4);obtain ⟨av,cap,hu⟩:=Zo O.row;subst hu;obtain ⟨n,hn⟩:∃ n,n=ds.length:=⟨_,rfl⟩;have HF:=Zh_ (λ k (hk:k < n)=>O.fetch (k:=k) (by rw [<-hn];exact hk));have HR:=Zh_ (λ k (hk:k < n)=>O.rows k (by rw [<-hn];exact hk));rw [<-hn] at hdn HLAW;rw [<-hn];clear hn O m4 C10;go_wp2_with fail
 go_loopw [37] (λ i wx=>∃ z:Nat,z<=n/\i=.int .i64 z/\Ze [] w4 wx) (λ i _=>n - (intOf i).toNat)
 case atStart=>exact ⟨0,by omega,rfl,Zr_ _ _⟩
 case round=>as_aux_lemma=>
  obtain ⟨z,hz,rfl,m⟩:=hrel;have HM:=Zh_ m;clear m
  by_cases hlt:z < n
  ·have d4:decide ((z:Int) < (n:Int))=true:=decide_eq_true (by omega);go_upto_region 8 with fail;obtain ⟨⟨ag,ae,ahg,ahc⟩,aone⟩:=HF.out z (by omega);subst ae;obtain ⟨d1,acs⟩:∃ cs:Array Value,cs=(Z5 (Sc ds z) (es.getD z X0)).toArray:=⟨_,rfl⟩;have az:d1.size=19:=by rw [acs];rfl
   have acl:∀ (i0:Nat) (v:Value),d1.toList[i0]? =some v->wr.cell? ((⟨ag,z * 19,none⟩:Addr).add i0)=some v:=by
    rw [acs];exact λ i0 v hv=>Zy HM.out (by rw [Ub];exact ahg) (by simp) (ahc i0 v (by simpa using hv))
   have aon:∀ u∈d1.toList,u.oneCell'=true:=by rw [acs];simpa using aone
   have aCS:=Zh_ acs;have aZ:=Zh_ az;have aCL:=Zh_ acl;have aON:=Zh_ aon;obtain ⟨q1,aq⟩:∃ r,r=wr.heap.size:=⟨_,rfl⟩;clear ahg ahc aone acs az acl aon;refine wp_region_lit ?_;refine Y3 (.pointer (some ⟨ag,z * 19,none⟩)) rfl (by go_simp) ?_;refine J0 rfl 50 _ rfl ⟨ag,z * 19,none⟩ rfl d1 _ aCL.out underlying50 rfl (by rw [aZ.out];kernel_rfl) ?_;refine Yj rfl ?_;go_simp;refine Kj ?_;have aB8:(wr.alloc (.cells #[.int .i64 0,.int .i64 0,.int .i64 0,.int .i64 0,.slice none 0 0,.int .i64 0,.int .i64 0,.slice none 0 0,.slice none 0 0,.slice none 0 0,.int .i64 0,.int .i64 0,.int .i64 0,.int .i64 0,.int .i64 0,.int .i64 0,.int .i64 0,.int .i64 0,.int .i64 0] 50)).heap[q1]? =some (.cells Ya 50 (0,0)):=by rw [aq];exact Zc _ _
   have aM8:Ze [] wr (wr.alloc (.cells #[.int .i64 0,.int .i64 0,.int .i64 0,.int .i64 0,.slice none 0 0,.int .i64 0,.int .i64 0,.slice none 0 0,.slice none 0 0,.slice none 0 0,.int .i64 0,.int .i64 0,.int .i64 0,.int .i64 0,.int .i64 0,.int .i64 0,.int .i64 0,.int .i64 0,.int .i64 0] 50)):=(Zr_ _ _).alloc _;rw [<-aq];have aQ:=Zh_ aq;clear aq;generalize wr.alloc (.cells #[.int .i64 0,.int .i64 0,.int .i64 0,.int .i64 0,.slice none 0 0,.int .i64 0,.int .i64 0,.slice none 0 0,.slice none 0 0,.slice none 0 0,.int .i64 0,.int .i64 0,.int .i64 0,.int .i64 0,.int .i64 0,.int .i64 0,.int .i64 0,.int .i64 0,.int .i64 0] 50)=w60 at *
   refine wpList_store_row rfl 50 _ _ rfl q1 d1 rfl rfl 50 _ aB8 (by rw [aZ.out];kernel_rfl) (by rw [aZ.out];rfl) (by rw [Array.all_eq_true_iff_forall_mem];intro u hu;exact aON.out u (by simpa using hu)) ?_;have aB9:(w60.setRow q1 d1).heap[q1]? =some (.cells d1 50 (0,0)):=Y0 aB8;have aM9:Ze [] wr (w60.setRow q1 d1):=aM8.setRow _ _ (.inr (by rw [aQ.out];exact Nat.le_refl _));have aB:=Zh_ aB9;have aM:=Zh_ aM9;clear aB8 aM8 aB9 aM9;generalize w60.setRow q1 d1=w6 at *
   go_simp;obtain ⟨hc,hrl⟩:=HLAW.out z hlt;obtain ⟨-,⟨t1,-⟩,⟨t2,-⟩,-⟩:=HR.out z hlt;have ex:es.getD z X0=es.getD z X0:=rfl;generalize hex:es.getD z X0=ez at t1 t2;obtain ⟨ra,rc,hra⟩:=Zo t1;obtain ⟨wa,wcap,hwa⟩:=Zo t2;clear ex t2;rw [hra] at t1;replace t1:=Zs t1 HM.out (by simp);obtain ⟨xtg,xhtg⟩:∃ r,r=(Sc ds z).tag:=⟨_,rfl⟩;obtain ⟨rd,hrd⟩:∃ r,r=(Sc ds z).reads:=⟨_,rfl⟩;obtain ⟨wn,hwn⟩:∃ r,r=(Sc ds z).writes.length:=⟨_,rfl⟩;have hwn':(Sc ds z).writes≠[]->0 < wn:=by
    intro hne;rw [hwn];exact List.length_pos_iff.2 hne
   have xctg:w6.cell? ⟨q1,3,none⟩=some (.int .i64 xtg):=Za aB.out (by rw [aCS.out,xhtg];rfl);have xcvr:w6.cell? ⟨q1,7,none⟩=some (.slice ra rd.length rc):=Za aB.out (by rw [aCS.out,hrd,hex];simp only [Z5,List.getElem?_toArray,List.getElem?_cons_succ,List.getElem?_cons_zero];rw [hra];rfl);have xcvw:w6.cell? ⟨q1,8,none⟩=some (.slice wa wn wcap):=Za aB.out (by rw [aCS.out,hwn,hex];simp only [Z5,List.getElem?_toArray,List.getElem?_cons_succ,List.getElem?_cons_zero];rw [hwa];rfl);have hCR:=S3 (l:=rd) (by rw [hrd];exact Zs t1 aM.out (by simp));have HCR:=Zh_ hCR;have HD:¬ (xtg=2/\0 < wn)->∀ i j,i < rd.length->j < rd.length->(rd.getD i (0,0)).1=(rd.getD j (0,0)).1->(rd.getD i (0,0)).2=(rd.getD j (0,0)).2:=by
    intro hno i j hi hj he;rcases hc with ⟨h1,h2⟩|h1
    ·exact absurd ⟨xhtg.trans h1,hwn' h2⟩ hno
    ·rw [<-hrd] at h1;exact h1 _ (Hn hi) _ (Hn hj) he
   obtain ⟨rn,hrn⟩:∃ r,r=rd.length:=⟨_,rfl⟩;rw [<-hrd] at hrl;rw [<-hrn] at hrl HCR HD xcvr;clear hc hCR t1 hex hra hwa hwn' hwn hrd xhtg hrn;have HMW:=Zh_ (HM.out.trans aM.out);go_upto_region 9 with fail
   by_cases hp:xtg=2/\0 < wn
   ·have f1:(xtg==2)=true:=by simp [hp.1]
    have f2:decide ((wn:Int) > 0)=true:=decide_eq_true (by omega);have f3:0 < wn:=hp.2;clear HD hp;go_wp2_with fail;go_roundw
    case rel=>exact ⟨z+1,by omega,by go_num,HMW.out⟩
    case measure=>simp [intOf];omega
   ·replace HD:=Zh_ (HD hp)
    go_cut [49] (λ A wx=>A=.bool false/\wx=w6)
    case first=>as_aux_lemma=>
     by_cases p1:xtg=2
     ·have f1:(xtg==2)=true:=by simp [p1]
      have f2:decide ((wn:Int) > 0)=false:=decide_eq_false (by omega);obtain rfl:wn=0:=by omega
      clear p1 hp;go_wp2_with fail;go_meet;exact ⟨rfl,rfl⟩
     ·have f1:(xtg==2)=false:=by simp [p1]
      clear p1 hp;go_wp2_with fail;go_meet;exact ⟨rfl,rfl⟩
    case rest=>as_aux_lemma=>
     obtain ⟨rfl,hw'⟩:=hcut;have hw:=hw'.symm;subst hw;clear hp;have hB:=aB;go_wp2_with fail;clear xctg xcvw;generalize wr=w5 at *
     clear d4
     go_loopw [53] (λ i wx=>∃ k:Nat,k<=rn/\i=.int .i64 k/\Ze [] w6 wx) (λ i _=>rn - (intOf i).toNat)
     case atStart=>exact ⟨0,by omega,rfl,Zr_ _ _⟩
     case round=>as_aux_lemma=>
      obtain ⟨k,hk,rfl,m⟩:=hrel;have HM6:=Zh_ m;have xv:wr.cell? ⟨q1,7,none⟩=some (.slice ra rn rc):=Zy m (lt_of_block aB.out) (by simp) xcvr
      by_cases hlk:k < rn
      ·have d5:decide ((k:Int) < (rn:Int))=true:=decide_eq_true (by omega);obtain ⟨rg,hrg,hgl,hcap,u1,u2⟩:=HCR.out k hlk;subst hrg;obtain ⟨ka,hka⟩:∃ r,r=(rd.getD k (0,0)).1:=⟨_,rfl⟩;obtain ⟨xa,hxa⟩:∃ r,r=(rd.getD k (0,0)).2:=⟨_,rfl⟩;rw [<-hka] at u1;rw [<-hxa] at u2;replace u1:=Zy m hgl (by simp) u1;replace u2:=Zy m hgl (by simp) u2;have HKA:=Zh_ hka;have HXA:=Zh_ hxa;clear hka hxa m;go_upto_region 13 with fail;obtain ⟨q2,hq2⟩:∃ r,r=wr.heap.size:=⟨_,rfl⟩;have B2:=Zh_ (show (wr.alloc (.cells #[.int .i64 ka,.float .f64 xa] 53)).heap[q2]? =some (.cells #[.int .i64 ka,.float .f64 xa] 53 (0,0)) from by rw [hq2];exact Zc _ _);have m8:Ze [] wr (wr.alloc (.cells #[.int .i64 ka,.float .f64 xa] 53)):=(Zr_ _ _).alloc _;rw [<-hq2];have HM7:=Zh_ (HM6.out.trans m8);have xv7:=Zy m8 (Tc xv) (by simp) xv;clear hq2 u1 u2 xv m8 d5;generalize wr.alloc (.cells #[.int .i64 ka,.float .f64 xa] 53)=w7 at *
       have s1:k<=rc:=by omega
       have s2:(k:Int)<=(rc:Int):=by omega
       go_wp2_with fail
       go_loopw [63] (λ i wx=>∃ j:Nat,j<=k/\i=.int .i64 j/\Ze [] w7 wx) (λ i _=>k - (intOf i).toNat)
       case atStart=>exact ⟨0,by omega,rfl,Zr_ _ _⟩
       case round=>as_aux_lemma=>
        obtain ⟨j,hj,rfl,m⟩:=hrel;have HM8:=Zh_ (HM7.out.trans m)
        by_cases hlj:j < k
        ·have d6:decide ((j:Int) < (k:Int))=true:=decide_eq_true (by omega);obtain ⟨rg2,hrg2,hgl2,-,u1,u2⟩:=HCR.out j (by omega);obtain rfl:rg2=rg:=by simpa using hrg2.symm
         obtain ⟨kb,hkb⟩:∃ r,r=(rd.getD j (0,0)).1:=⟨_,rfl⟩;obtain ⟨xb,hxb⟩:∃ r,r=(rd.getD j (0,0)).2:=⟨_,rfl⟩;rw [<-hkb] at u1;rw [<-hxb] at u2;replace u1:=Zy HM8.out hgl2 (by simp) u1;replace u2:=Zy HM8.out hgl2 (by simp) u2;have HE:ka=kb->xa=xb:=by
          intro he;rw [HXA.out,hxb];exact HD.out k j (by omega) (by omega) (by rw [<-HKA.out,<-hkb];exact he)
         have B2w:=Zh_ (m.at B2.out (by simp));have HMm:=Zh_ m;clear hkb hxb m hrg2;go_upto_region 16 with fail;obtain ⟨q3,hq3⟩:∃ r,r=wr.heap.size:=⟨_,rfl⟩;have B3:=(show (wr.alloc (.cells #[.int .i64 kb,.float .f64 xb] 53)).heap[q3]? =some (.cells #[.int .i64 kb,.float .f64 xb] 53 (0,0)) from by rw [hq3];exact Zc _ _);have m9:Ze [] wr (wr.alloc (.cells #[.int .i64 kb,.float .f64 xb] 53)):=(Zr_ _ _).alloc _;rw [<-hq3];have HM9:=Zh_ (HM8.out.trans m9);have HM97:=Zh_ (HMm.out.trans m9);have y0:=Za (i:=0) (m9.at B2w.out (by simp)) rfl;have y1:=Za (i:=1) (m9.at B2w.out (by simp)) rfl;have z0:=Za (i:=0) B3 rfl;have z1:=Za (i:=1) B3 rfl;clear hq3 u1 u2 B3 m9;generalize wr.alloc (.cells #[.int .i64 kb,.float .f64 xb] 53)=w8 at *
         by_cases he:ka=kb
         ·have e1:(ka==kb)=true:=by simp [he]
          have he2:=HE he;subst he2;have r1:=Nq xa;clear HE he;go_quiet (fail);go_wp2_with fail;go_roundw
          case rel=>
           first
           |exact ⟨j+1,by omega,by go_num,HM97.out.drewN _⟩
           |((repeat apply Exists.intro);exact ⟨⟨j+1,by omega,by go_num,HM97.out.drewN _⟩,rfl⟩)
          case measure=>simp [intOf];omega
         ·have e1:(ka==kb)=false:=by simp [he]
          clear HE he;go_quiet (fail);go_wp2_with fail;go_roundw
          case rel=>
           first
           |exact ⟨j+1,by omega,by go_num,HM97.out.drewN _⟩
           |((repeat apply Exists.intro);exact ⟨⟨j+1,by omega,by go_num,HM97.out.drewN _⟩,rfl⟩)
          case measure=>simp [intOf];omega
        ·have d6:decide ((j:Int) < (k:Int))=false:=decide_eq_false (by omega);clear m;go_wp2_with fail;go_roundw
         case rel=>
          first
          |exact ⟨k+1,by omega,by go_num,HM8.out⟩
          |((repeat apply Exists.intro);exact ⟨⟨k+1,by omega,by go_num,HM8.out⟩,rfl⟩)
         case measure=>simp [intOf];omega
      ·have d5:decide ((k:Int) < (rn:Int))=false:=decide_eq_false (by omega);clear m;go_wp2_with fail;go_roundw
       case rel=>
        first
        |exact ⟨z+1,by omega,by go_num,HMW.out.trans HM6.out⟩
        |((repeat apply Exists.intro);exact ⟨⟨z+1,by omega,by go_num,HMW.out.trans HM6.out⟩,rfl⟩)
       case measure=>simp [intOf];omega
  ·have d4:decide ((z:Int) < (n:Int))=false:=decide_eq_false (by omega);go_wp2;go_ret;exact ⟨rfl,M4.out.trans HM.out⟩
end
end Go.Proofs.YtkhonmhnchdpkaaGreat
