/- A part of the proof; no condition. -/
import Derived.Test.YtkhonmhnchdpkaaGreatB19
import Derived.Laws.CopyRow
set_option maxRecDepth 100000
set_option maxHeartbeats 40000000
namespace Go.Proofs.YtkhonmhnchdpkaaGreat
open Go.RowKit _root_.Go.Proofs.Tryz
open Go renaming World→W
open Value renaming int→U,pointer→E,slice→L,agg→A9
open IntKind renaming i64→Y
open Option renaming some→I,none→O
open Ending renaming returned→R_
open _root_.Go.Proofs.Tryz renaming prog→N
open List renaming getD_eq_getElem?_getD→G_
section
structure AT where
 wr:Bool
 (mark number ended bgn:Int)
 ph:Nat
def Fo (x:AT):Bool:=decide (0 < x.number)
def En (l:List AT):Nat:=l.countP Fo
def Gh (b:Int) (x:AT):Bool:=decide (0 < x.number/\0 < x.ended/\x.ended < b)
def yc (l:List AT) (b:Int):Nat:=l.countP (Gh b)
def drawn (x:AT):Bool:=x.wr&&decide (1<=x.ph)
structure Rn (qG qX K st:Int) (l:List AT) (x:AT):Prop where
 rd:x.wr=false->x.number=0/\(x.mark=-1\/(0<=x.mark/\x.mark<=K/\(yc l x.bgn:Int)<=x.mark))
 w0:x.wr=true->x.ph=0->x.mark=-1/\x.number=0/\x.ended=0
 w1:x.wr=true->x.ph=1->qX<=x.mark/\x.mark < qG/\x.number=0/\x.ended=0
 w2:x.wr=true->x.ph=2->x.mark=qX/\qX < qG/\0<=x.number/\x.number<=K/\x.ended=0
 w3:x.wr=true->3<=x.ph->0<=x.mark/\x.mark < qX/\0<=x.number/\x.number<=K/\0 < x.ended
 en:0<=x.ended/\x.ended<=st
 bg:x.bgn<=st
structure Ri (x y:AT):Prop where
 ne:x.mark≠y.mark
 num:x.mark < y.mark->0 < x.number->0 < y.number->x.number < y.number
 wu:x.mark < y.mark->0 < y.ended->x.ended<=y.ended
structure Xz (qG qX K st:Int) (l:List AT):Prop where
 N0:0<=qG
 V0:0<=qX
 VN:qX<=qG
 ot:0<=st
 dr:(l.countP drawn:Int)=qG
 pu:(En l:Int)=K
 one:∀ x∈l,Rn qG qX K st l x
 two:∀ (i j:Nat) (x y:AT),l[i]? =I x->l[j]? =I y->i≠j->x.wr=true->y.wr=true->0<=x.mark->0<=y.mark->Ri x y
theorem Xz.init:Xz 0 0 0 0 []:=⟨by omega,by omega,by omega,by omega,rfl,rfl,by simp,by simp⟩
theorem Ag (l:List AT) (x:AT) (b:Int) (h:x.number=0):yc (l++[x]) b=yc l b:=by
 unfold yc;rw [List.countP_append];simp [Gh,h]
theorem Xz.tick {qG qX K st:Int} {l:List AT} (h:Xz qG qX K st l):Xz qG qX K (st+1) l:=
 ⟨h.N0,h.V0,h.VN,by have:=h.ot;omega,h.dr,h.pu,λ x hx=>by
  obtain ⟨a,b,c,d,e,f,g⟩:=h.one x hx;exact ⟨a,b,c,d,e,by omega,by omega⟩,h.two⟩
theorem Xz.begin {qG qX K st:Int} {l:List AT} (h:Xz qG qX K st l) (wr:Bool):Xz qG qX K st (l++[⟨wr,-1,0,0,st,0⟩]):=by
 refine ⟨h.N0,h.V0,h.VN,h.ot,?_,?_,?_,?_⟩
 ·rw [List.countP_append,<-h.dr];simp [drawn]
 ·unfold En;rw [List.countP_append,<-h.pu];simp [En,Fo]
 ·intro x hx;have h0:=h.ot;rw [List.mem_append,List.mem_singleton] at hx;rcases hx with hx|rfl
  ·obtain ⟨a,b,c,d,e,f,g⟩:=h.one x hx;exact ⟨by rw [Ag _ _ _ rfl];exact a,b,c,d,e,f,g⟩
  ·exact ⟨λ _=>⟨J,.inl J⟩,λ _ _=>⟨J,J,J⟩,λ _ hp=>absurd hp (by simp),λ _ hp=>absurd hp (by simp),λ _ hp=>absurd hp (by simp),by simp;omega,by simp⟩
 ·intro i j x y hi hj hne hx hy hmx hmy;rw [List.getElem?_append] at hi hj;split at hi
  ·split at hj
   ·exact h.two i j x y hi hj hne hx hy hmx hmy
   ·simp only [List.getElem?_singleton] at hj;split at hj
    ·simp at hj;subst hj;simp at hmy
    ·cases hj
  ·simp only [List.getElem?_singleton] at hi;split at hi
   ·simp at hi;subst hi;simp at hmx
   ·cases hi
theorem Fb {p:AT->Bool} {l:List AT} {i:Nat} {x:AT} (hi:l[i]? =I x) (y:AT):(l.set i y).countP p+(if p x=true then 1 else 0)=l.countP p+(if p y=true then 1 else 0):=by
 induction l generalizing i with
 |nil=>simp at hi
 |cons a l ih=>
  cases i with
  |zero=>
   simp at hi;subst hi;simp only [List.set_cons_zero,List.countP_cons];omega
  |succ i=>
   simp at hi;have:=ih hi;simp only [List.set_cons_succ,List.countP_cons];omega
theorem cnt_set {l:List AT} {i:Nat} {x:AT} (hi:l[i]? =I x) (y:AT) (b:Int) (h:Gh b x=Gh b y):yc (l.set i y) b=yc l b:=by
 have:=Fb (p:=Gh b) hi y;unfold yc;rw [h] at this;omega
theorem mem_set {l:List AT} {i:Nat} {y z:AT} (h:z∈l.set i y):z=y\/∃ j,j≠i/\l[j]? =I z:=by
 obtain ⟨j,hj⟩:=List.getElem?_of_mem h;rw [List.getElem?_set] at hj;split at hj
 ·split at hj
  ·left;simpa using hj.symm
  ·cases hj
 ·right;exact ⟨j,by omega,hj⟩
theorem cnt_le (l:List AT) (b:Int):yc l b<=En l:=by
 unfold yc En;refine List.countP_mono_left (λ x _ h=>?_);simp only [Gh,Fo,decide_eq_true_eq] at *
 exact h.1
theorem Xz.ki {qG qX K st qG' qX' K':Int} {l:List AT} (h:Xz qG qX K st l) {i:Nat} {x y:AT} (hi:l[i]? =I x)
  (hN:0<=qG') (hV:0<=qX') (hVN:qX'<=qG') (hd:qG+(if drawn y=true then 1 else 0)=qG'+(if drawn x=true then 1 else 0)) (hp:K+(if Fo y=true then 1 else 0)=K'+(if Fo x=true then 1 else 0))
  (he:∀ b,b<=st->Gh b x=Gh b y) (hbx:y.bgn<=st)
  (hy:Rn qG' qX' K' st l y) (hz:∀ z j,j≠i->l[j]? =I z->Rn qG' qX' K' st l z)
  (hxy:∀ z j,j≠i->l[j]? =I z->y.wr=true->z.wr=true->0<=y.mark->0<=z.mark->Ri y z/\Ri z y):Xz qG' qX' K' st (l.set i y):=by
 have hc:∀ b,b<=st->yc (l.set i y) b=yc l b:=λ b hb=>cnt_set hi y b (he b hb);have conv:∀ z,Rn qG' qX' K' st l z->Rn qG' qX' K' st (l.set i y) z:=by
  rintro z ⟨a,b,c,d,e,f,g⟩;exact ⟨by rw [hc _ g];exact a,b,c,d,e,f,g⟩
 refine ⟨hN,hV,hVN,h.ot,?_,?_,?_,?_⟩
 ·have h1:=Fb (p:=drawn) hi y;have h2:=h.dr;cases hdy:drawn y <;> cases hdx:drawn x <;> rw [hdy,hdx] at h1 hd <;> simp at h1 hd <;> omega
 ·have h1:=Fb (p:=Fo) hi y;have h2:=h.pu;unfold En at *
  cases hdy:Fo y <;> cases hdx:Fo x <;> rw [hdy,hdx] at h1 hp <;> simp at h1 hp <;> omega
 ·intro z hz';rcases mem_set hz' with rfl|⟨j,hj,hjz⟩
  ·exact conv _ hy
  ·exact conv _ (hz z j hj hjz)
 ·intro a b u v ha hb hne hu hv hmu hmv;rw [List.getElem?_set] at ha hb;split at ha
  ·split at ha
   ·simp at ha;subst ha;split at hb
    ·omega
    ·exact (hxy v b (by omega) hb hu hv hmu hmv).1
   ·cases ha
  ·split at hb
   ·split at hb
    ·simp at hb;subst hb;exact (hxy u a (by omega) ha hv hu hmv hmu).2
    ·cases hb
   ·exact h.two a b u v ha hb hne hu hv hmu hmv
theorem Y6 {l:List AT} {j:Nat} {z:AT} (h:l[j]? =I z):z∈l:=List.mem_of_getElem? h
theorem Xz.pair {qG qX K st:Int} {l:List AT} (h:Xz qG qX K st l) {i:Nat} {x:AT} (hi:l[i]? =I x) (hx:x.wr=true) (hm:0<=x.mark):∀ z j,j≠i->l[j]? =I z->z.wr=true->0<=z.mark->Ri x z/\Ri z x:=
 λ z j hj hjz hz hmz=>⟨h.two i j x z hi hjz (by omega) hx hz hm hmz,h.two j i z x hjz hi hj hz hx hmz hm⟩
section
variable {qG qX K st:Int} {l:List AT} {i:Nat} {x:AT}
theorem Xz.draw (h:Xz qG qX K st l) (hi:l[i]? =I x) (hx:x.wr=true) (hp:x.ph=0):Xz (qG+1) qX K st (l.set i {x with mark:=qG,ph:=1}):=by
 have o:=h.one x (Y6 hi);obtain ⟨m0,n0,e0⟩:=o.w0 hx hp;have:=h.N0;have:=h.V0;have:=h.VN;refine h.ki hi (by omega) (by omega) (by omega) (by simp [drawn,hx,hp]) (by simp [Fo,n0]) (λ b _=>J) o.bg ?_ ?_ ?_
 ·exact ⟨λ hw=>by simp [hx] at hw,λ _ hq=>by simp at hq,λ _ _=>by simp;omega,λ _ hq=>by simp at hq,λ _ hq=>by simp at hq,o.en,o.bg⟩
 ·intro z j _ hjz;obtain ⟨a,b,c,d,e,f,g⟩:=h.one z (Y6 hjz);exact ⟨a,b,λ h1 h2=>by have:=c h1 h2;omega,λ h1 h2=>by have:=d h1 h2;omega,e,f,g⟩
 ·intro z j _ hjz _ hz _ hmz;have oz:=h.one z (Y6 hjz);have hlt:z.mark < qG:=by
   rcases (show z.ph=0\/z.ph=1\/z.ph=2\/3<=z.ph by omega) with q|q|q|q
   ·have:=oz.w0 hz q;omega
   ·have:=oz.w1 hz q;omega
   ·have:=oz.w2 hz q;omega
   ·have:=oz.w3 hz q;omega
  exact ⟨⟨by simp;omega,by simp;omega,by simp;omega⟩,⟨by simp;omega,by simp [n0],by simp [e0]⟩⟩
theorem Xz.mine (h:Xz qG qX K st l) (hi:l[i]? =I x) (hx:x.wr=true) (hp:x.ph=1) (hm:x.mark=qX):Xz qG qX K st (l.set i {x with ph:=2}):=by
 have o:=h.one x (Y6 hi);obtain ⟨m0,m1,n0,e0⟩:=o.w1 hx hp;have:=h.N0;have:=h.V0;have:=h.VN;have hK:0<=K:=by have:=h.pu;omega
 refine h.ki hi (by omega) (by omega) (by omega) (by simp [drawn,hx,hp]) (by simp [Fo,n0]) (λ b _=>J) o.bg ?_ (λ z j _ hjz=>h.one z (Y6 hjz)) ?_
 ·exact ⟨λ hw=>by simp [hx] at hw,λ _ hq=>by simp at hq,λ _ hq=>by simp at hq,λ _ _=>by simp;omega,λ _ hq=>by simp at hq,o.en,o.bg⟩
 ·intro z j hj hjz _ hz hm' hmz;obtain ⟨p,q⟩:=h.pair hi hx (by omega) z j hj hjz hz hmz;exact ⟨⟨p.ne,p.num,p.wu⟩,⟨q.ne,q.num,q.wu⟩⟩
theorem Xz.um (h:Xz qG qX K st l) (hi:l[i]? =I x) (hx:x.wr=true) (hp:x.ph=2) (hn:x.number=0):Xz qG qX (K+1) st (l.set i {x with number:=K+1}):=by
 have o:=h.one x (Y6 hi);obtain ⟨m0,m1,_,_,e0⟩:=o.w2 hx hp;have:=h.N0;have:=h.V0;have:=h.VN;have hK:0<=K:=by have:=h.pu;omega
 refine h.ki hi (by omega) (by omega) (by omega) (by simp [drawn,hx]) (by simp [Fo,hn];omega) (λ b _=>by simp [Gh,e0]) o.bg ?_ ?_ ?_
 ·exact ⟨λ hw=>by simp [hx] at hw,λ _ hq=>by simp [hp] at hq,λ _ hq=>by simp [hp] at hq,λ _ _=>by simp;omega,λ _ hq=>by simp [hp] at hq,o.en,o.bg⟩
 ·intro z j _ hjz;obtain ⟨a,b,c,d,e,f,g⟩:=h.one z (Y6 hjz);exact ⟨λ h1=>by have:=a h1;omega,b,c,λ h1 h2=>by have:=d h1 h2;omega,λ h1 h2=>by have:=e h1 h2;omega,f,g⟩
 ·intro z j hj hjz _ hz hm' hmz;obtain ⟨p,q⟩:=h.pair hi hx (by omega) z j hj hjz hz hmz;have oz:=h.one z (Y6 hjz);have hle:0 < z.number->z.mark < qX/\z.number<=K:=by
   intro hz0;have hne:=q.ne;rcases (show z.ph=0\/z.ph=1\/z.ph=2\/3<=z.ph by omega) with r|r|r|r
   ·have:=oz.w0 hz r;omega
   ·have:=oz.w1 hz r;omega
   ·have:=oz.w2 hz r;omega
   ·have:=oz.w3 hz r;omega
  exact ⟨⟨p.ne,λ h1 _ h3=>by simp at h1;have:=hle h3;omega,p.wu⟩,⟨q.ne,λ h1 h2 _=>by simp;have:=hle h2;omega,q.wu⟩⟩
theorem Xz.pass (h:Xz qG qX K st l) (hi:l[i]? =I x) (hx:x.wr=true) (hp:x.ph=2) (hst:0 < st):Xz qG (qX+1) K st (l.set i {x with ended:=st,ph:=3}):=by
 have o:=h.one x (Y6 hi);obtain ⟨m0,m1,n0,n1,e0⟩:=o.w2 hx hp;have:=h.N0;have:=h.V0;have:=h.VN;refine h.ki hi (by omega) (by omega) (by omega) (by simp [drawn,hx,hp]) (by simp [Fo]) (λ b hb=>by simp [Gh,e0];omega) o.bg ?_ ?_ ?_
 ·exact ⟨λ hw=>by simp [hx] at hw,λ _ hq=>by simp at hq,λ _ hq=>by simp at hq,λ _ hq=>by simp at hq,λ _ _=>by simp;omega,by simp;omega,o.bg⟩
 ·intro z j hj hjz;obtain ⟨a,b,c,d,e,f,g⟩:=h.one z (Y6 hjz);have hne:z.wr=true->0<=z.mark->z.mark≠qX:=λ hz hmz=>by
   have:=(h.pair hi hx (by omega) z j hj hjz hz hmz).2.ne;omega
  exact ⟨a,b,λ h1 h2=>by have:=c h1 h2;have:=hne h1 (by omega);omega,λ h1 h2=>by have:=d h1 h2;have:=hne h1 (by omega);omega,λ h1 h2=>by have:=e h1 h2;omega,f,g⟩
 ·intro z j hj hjz _ hz hm' hmz;obtain ⟨p,q⟩:=h.pair hi hx (by omega) z j hj hjz hz hmz;have oz:=h.one z (Y6 hjz);refine ⟨⟨p.ne,p.num,λ h1 h2=>?_⟩,⟨q.ne,q.num,λ h1 h2=>oz.en.2⟩⟩;simp at h1;rcases (show z.ph=0\/z.ph=1\/z.ph=2\/3<=z.ph by omega) with r|r|r|r
  ·have:=oz.w0 hz r;omega
  ·have:=oz.w1 hz r;omega
  ·have:=oz.w2 hz r;omega
  ·have:=oz.w3 hz r;omega
end
section
variable {qG qX K st:Int} {l:List AT} {i:Nat} {x:AT}
theorem Xz.qg (h:Xz qG qX K st l) (hi:l[i]? =I x) (hx:x.wr=false):Xz qG qX K st (l.set i {x with mark:=K}):=by
 have o:=h.one x (Y6 hi);obtain ⟨n0,_⟩:=o.rd hx;have hK:0<=K:=by have:=h.pu;omega
 refine h.ki hi h.N0 h.V0 h.VN (by simp [drawn,hx]) (by simp [Fo]) (λ b _=>J) o.bg ?_ (λ z j _ hjz=>h.one z (Y6 hjz)) (λ _ _ _ _ hw=>by simp [hx] at hw);have:=cnt_le l x.bgn;have:=h.pu;exact ⟨λ _=>⟨n0,.inr ⟨hK,Int.le_refl _,by show (yc l x.bgn:Int)<=K;omega⟩⟩,λ hw=>by simp [hx] at hw,λ hw=>by simp [hx] at hw,λ hw=>by simp [hx] at hw,λ hw=>by simp [hx] at hw,o.en,o.bg⟩
theorem Xz.leave (h:Xz qG qX K st l) (hi:l[i]? =I x) (hx:x.wr=false) (p:Nat):Xz qG qX K st (l.set i {x with ended:=st,ph:=p}):=by
 have o:=h.one x (Y6 hi);have n0:=(o.rd hx).1;have h0:=h.ot;refine h.ki hi h.N0 h.V0 h.VN (by simp [drawn,hx]) (by simp [Fo]) (λ b _=>by simp [Gh,n0]) o.bg ?_ (λ z j _ hjz=>h.one z (Y6 hjz)) (λ _ _ _ _ hw=>by simp [hx] at hw);exact ⟨o.rd,λ hw=>by simp [hx] at hw,λ hw=>by simp [hx] at hw,λ hw=>by simp [hx] at hw,λ hw=>by simp [hx] at hw,by simp;omega,o.bg⟩
end
end
section
def Xp (x:Vb):AT:=
 match x.g with
 |none=>⟨x.raw.tag==2,x.raw.mark,x.raw.number,x.raw.ended,x.raw.bgn,3⟩
 |some (.wr w)=>⟨true,if 1 < w.part then w.qc else -1,w.number,0,x.raw.bgn,if w.part=1 then 0 else if w.part=2 then 1 else 2⟩
 |some (.rd r)=>⟨false,if r.part=1 then -1 else r.qh.st,0,0,x.raw.bgn,0⟩
structure Qa (s:Zn):Prop where
 a:Xz (s.mem.wd 0) (s.mem.wd 1) (s.mem.wd 2) s.steps (s.qe.map Xp)
 w:∀ (i:Nat) (raw:Zu) (x:Zv),s.qe[i]? =I ⟨raw,I (.wr x)⟩->4<=x.part->x.part<=7->x.qg=s.mem.wd 2
 lt:s.steps < 1000000000
variable {s:Zn} {t i:Nat} {raw:Zu} {g:Qt} {v:Nat} {qG qX K st:Int} {l:List AT} {x:Zv} {y:Z8}
theorem Xz.N_le (h:Xz qG qX K st l):qG<=l.length/\K<=l.length:=by
 refine ⟨?_,?_⟩
 ·rw [<-h.dr];exact_mod_cast List.countP_le_length
 ·rw [<-h.pu];exact_mod_cast List.countP_le_length
theorem Qa.small (h:Qa s) (k:Yi s):(0<=s.mem.wd 0/\s.mem.wd 0 < 1000000000)/\(0<=s.mem.wd 1/\s.mem.wd 1 < 1000000000)/\(0<=s.mem.wd 2/\s.mem.wd 2 < 1000000000):=by
 obtain ⟨h1,h2⟩:=h.a.N_le;rw [List.length_map] at h1 h2;have:=k.st;have:=h.lt;have:=h.a.N0;have:=h.a.V0;have:=h.a.VN;have:=h.a.pu;refine ⟨⟨by omega,by omega⟩,⟨by omega,by omega⟩,⟨by omega,by omega⟩⟩
theorem Ci (hx:s.qe[i]? =I ⟨raw,I g⟩):(s.qe.map Xp)[i]? =I (Xp ⟨raw,I g⟩):=by
 rw [List.getElem?_map,hx];rfl
theorem Ds (hx:s.qe[i]? =I ⟨raw,I g⟩):Xp ⟨raw,I g⟩∈s.qe.map Xp:=List.mem_of_getElem? (Ci hx)
theorem Qa.qc (h:Qa s) (hx:s.qe[i]? =I ⟨raw,I (.wr x)⟩) (hp:1 < x.part):0<=x.qc/\x.qc < s.mem.wd 0:=by
 have o:=h.a.one _ (Ds hx);have V0:=h.a.V0;have VN:=h.a.VN;have e1:(Xp ⟨raw,I (.wr x)⟩).mark=x.qc:=P9 hp
 by_cases h2:x.part=2
 ·have:=o.w1 J (by show (if x.part=1 then 0 else if x.part=2 then 1 else 2)=1;rw [Q9 (by omega),P9 h2]);rw [e1] at this;omega
 ·have:=o.w2 J (by show (if x.part=1 then 0 else if x.part=2 then 1 else 2)=2;rw [Q9 (by omega),Q9 h2]);rw [e1] at this;omega
theorem Qa.ki (h:Qa s) (hx:s.qe[i]? =I ⟨raw,I (.wr x)⟩) (hp:3<=x.part):x.qc=s.mem.wd 1:=by
 have o:=h.a.one _ (Ds hx);have e1:(Xp ⟨raw,I (.wr x)⟩).mark=x.qc:=P9 (by omega);have:=(o.w2 J (by show (if x.part=1 then 0 else if x.part=2 then 1 else 2)=2;rw [Q9 (by omega),Q9 (by omega)])).1;rw [e1] at this;exact this
theorem Qa.alone (h:Qa s) {j:Nat} {raw':Zu} {z:Zv} (hx:s.qe[i]? =I ⟨raw,I (.wr x)⟩) (hz:s.qe[j]? =I ⟨raw',I (.wr z)⟩) (hp:3<=x.part) (hq:3<=z.part):i=j:=by
 by_cases e:i=j
 ·exact e
 ·exfalso;have e1:(Xp ⟨raw,I (.wr x)⟩).mark=x.qc:=P9 (by omega);have e2:(Xp ⟨raw',I (.wr z)⟩).mark=z.qc:=P9 (by omega);have t1:=h.qc hx (by omega);have t2:=h.qc hz (by omega);have:=(h.a.two i j _ _ (Ci hx) (Ci hz) e J J (by rw [e1];omega) (by rw [e2];omega)).ne;rw [e1,e2,h.ki hx hp,h.ki hz hq] at this;exact this J
theorem Qa.tick (h:Qa s) (hs:s.steps+1 < 1000000000):Qa {s with steps:=s.steps+1}:=
 ⟨by have:=h.a.tick;exact_mod_cast this,h.w,hs⟩
theorem Qa.begin (h:Qa s) (t:Nat):Qa (s.begin t):=by
 have hx:(s.begin t).qe=s.qe++[⟨Xj t (s.th t).begun (s.call t).1 s.steps,I (s.xb t)⟩]:=J;refine ⟨?_,?_,h.lt⟩
 ·show Xz (s.mem.wd 0) (s.mem.wd 1) (s.mem.wd 2) s.steps ((s.begin t).qe.map Xp);rw [hx,List.map_append];have e:∃ b,Xp ⟨Xj t (s.th t).begun (s.call t).1 s.steps,I (s.xb t)⟩=⟨b,-1,0,0,s.steps,0⟩:=by
   unfold Zn.xb;split
   ·exact ⟨true,J⟩
   ·exact ⟨false,J⟩
  obtain ⟨b,e⟩:=e;rw [List.map_singleton,e];exact h.a.begin b
 ·intro i raw x hi h4 h7;rw [hx,List.getElem?_append] at hi;split at hi
  ·exact h.w i raw x hi h4 h7
  ·rw [List.getElem?_singleton] at hi;split at hi
   ·simp at hi;have hg:=hi.2;unfold Zn.xb at hg;split at hg
    ·simp at hg;rw [<-hg] at h4;simp [Ul] at h4
    ·simp at hg
   ·cases hi
theorem Qa.ready (h:Qa s) (t:Nat) (hs:s.steps+1 < 1000000000):Qa (s.ready t):=by
 unfold Zn.ready;split
 ·exact (h.tick hs).begin t
 ·exact h.tick hs
theorem Qa.put (h:Qa s) (qi:List Qy) (m:Zh) (z:Vb) (ha:Xz (m.wd 0) (m.wd 1) (m.wd 2) s.steps ((s.qe.map Xp).set i (Xp z)))
  (hz:∀ x,z.g=I (.wr x)->4<=x.part->x.part<=7->x.qg=m.wd 2)
  (ho:m.wd 2=s.mem.wd 2\/∀ j raw' x',j≠i->s.qe[j]? =I ⟨raw',I (.wr x')⟩->4<=x'.part->x'.part<=7->False):Qa {s with mem:=m,qi:=qi,qe:=s.qe.set i z}:=by
 refine ⟨?_,?_,h.lt⟩
 ·show Xz (m.wd 0) (m.wd 1) (m.wd 2) s.steps ((s.qe.set i z).map Xp);rw [List.map_set];exact ha
 ·intro j raw' x' hj h4 h7;have hj:(s.qe.set i z)[j]? =I ⟨raw',I (.wr x')⟩:=hj;show x'.qg=m.wd 2;rw [List.getElem?_set] at hj;split at hj
  ·split at hj
   ·have hj:=Zo_ hj;exact hz x' (by rw [hj]) h4 h7
   ·cases hj
  ·rename_i hne;rcases ho with ho|ho
   ·rw [ho];exact h.w j raw' x' hj h4 h7
   ·exact (ho j raw' x' (by omega) hj h4 h7).elim
theorem Fj {α:Type} {l:List α} {i:Nat} {a:α} (h:l[i]? =I a):l.set i a=l:=by
 apply List.ext_getElem?;intro j;rw [List.getElem?_set];split
 ·rename_i e;subst e;have:=(List.getElem?_eq_some_iff.1 h).1;rw [P9 this,h]
 ·rfl
theorem Qa.zc (h:Qa s) (k:Yi s) (ht:t < s.qi.length) (hc:(s.th t).cur=I i) (hx:s.qe[i]? =I ⟨raw,I g⟩) (v:Nat) (hst:0 < s.steps):Qa (s.zc t i raw (g.step s.mem.opened v)):=by
 obtain ⟨u,hu,hcu,hru,hg⟩:=k.tx i raw g hx;obtain rfl:=k.one ht hu hc hcu;obtain ⟨⟨N0,N9⟩,⟨V0,V9⟩,⟨K0,K9⟩⟩:=h.small k;have zq:=Ci hx;have put:∀ (g':Qt) (m:Zh),g'.qf=false->g.step s.mem.opened v=(g',m)->Xz (m.wd 0) (m.wd 1) (m.wd 2) s.steps ((s.qe.map Xp).set i (Xp ⟨raw,I g'⟩))->
   (∀ x,g'=.wr x->4<=x.part->x.part<=7->x.qg=m.wd 2)->(m.wd 2=s.mem.wd 2\/∀ j raw' x',j≠i->s.qe[j]? =I ⟨raw',I (.wr x')⟩->4<=x'.part->x'.part<=7->False)->Qa (s.zc t i raw (g.step s.mem.opened v)):=by
  intro g' m ho e ha hz hw;rw [e];unfold Zn.zc;rw [Q9 (by simp [ho])];exact h.put s.qi m ⟨raw,I g'⟩ ha (λ x hxx=>hz x (by simpa using hxx)) hw
 have done:∀ (g':Qt) (m:Zh),g'.qf=true->g.step s.mem.opened v=(g',m)->Xz (m.wd 0) (m.wd 1) (m.wd 2) s.steps ((s.qe.map Xp).set i (Xp ⟨{raw.join g'.told with ended:=s.steps},O⟩))->
   m.wd 2=s.mem.wd 2->Qa (s.zc t i raw (g.step s.mem.opened v)):=by
  intro g' m ho e ha hw;rw [e];unfold Zn.zc;rw [P9 ho];exact h.put _ m _ ha (λ x hxx=>by cases hxx) (.inl hw)
 have same:∀ (g':Qt) (m:Zh),g'.qf=false->g.step s.mem.opened v=(g',m)->Xp ⟨raw,I g'⟩=Xp ⟨raw,I g⟩->(∀ j < 3,m.wd j=s.mem.wd j)->(∀ x,g'=.wr x->4<=x.part->x.part<=7->x.qg=s.mem.wd 2)->Qa (s.zc t i raw (g.step s.mem.opened v)):=by
  intro g' m ho e ha hw hz;refine put g' m ho e ?_ (λ x q a b=>by rw [hw 2 (by omega)];exact hz x q a b) (.inl (hw 2 (by omega)));rw [ha,Fj zq,hw 0 (by omega),hw 1 (by omega),hw 2 (by omega)];exact h.a
 have lw:∀ (m:Zh),m.ws=s.mem.ws->∀ j < 3,m.wd j=s.mem.wd j:=λ m e j _=>by unfold Zh.wd;rw [e]
 cases g with
 |wr x=>
  have hg:Jv s.c0 s.c1 x:=hg;have hh:x.part=1\/x.part=2\/x.part=3\/x.part=4\/x.part=5\/x.part=6\/x.part=7\/x.part=8:=by have:=hg.p1;have:=hg.p8;omega
  have es:∀ r,x.step s.mem.opened v=r->Qt.step (.wr x) s.mem.opened v=(.wr r.1,r.2):=λ r e=>by rw [<-e];rfl
  have acc:=λ n h0 h1=>Ve k.cfg k.len n h0 h1;have b0:=k.cfg.b0;rcases hh with hp|hp|hp|hp|hp|hp|hp|hp
  ·refine put _ _ ?_ (es _ (Nf k.cfg k.len hp)) ?_ ?_ ?_
   ·rfl
   ·have e0:(s.mem.opened.add 0 1).wd 0=s.mem.wd 0+1:=by
     rw [Zh.ke (by omega) (acc 0 (by omega) (by omega)),P9 (by rfl)];exact J8 (by show 0<=s.mem.wd 0+1;omega) (by show s.mem.wd 0+1 < _;omega)
    have e1:∀ j,j≠0->(s.mem.opened.add 0 1).wd j=s.mem.wd j:=λ j hj=>by rw [Zh.ke (by omega) (acc 0 (by omega) (by omega)),Q9 (by simpa using Ne.symm hj)]
    show Xz ((s.mem.opened.add 0 1).wd 0) ((s.mem.opened.add 0 1).wd 1) ((s.mem.opened.add 0 1).wd 2) _ _;rw [e0,e1 1 (by omega),e1 2 (by omega)];have:=h.a.draw zq J (by show (if x.part=1 then 0 else if x.part=2 then 1 else 2)=0;rw [P9 hp]);exact this
   ·intro z hz h4;obtain rfl:=Qt.wr.inj hz;exact absurd h4 (by simp)
   ·left;show (s.mem.opened.add 0 1).wd 2=s.mem.wd 2;rw [Zh.ke (by omega) (acc 0 (by omega) (by omega)),Q9 (by simp)]
  ·have hm:=lw (s.mem.opened.load 1) (by rw [Zh.zp];rfl);refine put _ _ ?_ (es _ (Nd k.cfg k.len hp)) ?_ ?_ (.inl (hm 2 (by omega)))
   ·show ((if s.mem.wd 1=x.qc then (3:Int) else 2)==9)=false;split <;> rfl
   ·show Xz ((s.mem.opened.load 1).wd 0) ((s.mem.opened.load 1).wd 1) ((s.mem.opened.load 1).wd 2) _ _;rw [hm 0 (by omega),hm 1 (by omega),hm 2 (by omega)]
    by_cases hmine:s.mem.wd 1=x.qc
    ·have:=h.a.mine zq J (by show (if x.part=1 then 0 else if x.part=2 then 1 else 2)=1;rw [Q9 (by omega),P9 hp]) (by show (if 1 < x.part then x.qc else -1)=_;rw [P9 (by omega),hmine]);have e:Xp ⟨raw,I (.wr {x with part:=if s.mem.wd 1=x.qc then 3 else 2})⟩={Xp ⟨raw,I (.wr x)⟩ with ph:=2}:=by
      rw [P9 hmine];simp [Xp,hp]
     rw [e];exact this
    ·have e:Xp ⟨raw,I (.wr {x with part:=if s.mem.wd 1=x.qc then 3 else 2})⟩=Xp ⟨raw,I (.wr x)⟩:=by
      rw [Q9 hmine];simp [Xp,hp]
     rw [e,Fj zq];exact h.a
   ·intro z hz h4;obtain rfl:=Qt.wr.inj hz;exfalso;replace h4:4<=(if s.mem.wd 1=x.qc then (3:Int) else 2):=h4;split at h4 <;> omega
  ·have hm:=lw (s.mem.opened.load 2) (by rw [Zh.zp];rfl);refine same _ _ ?_ (es _ (Nc k.cfg k.len hp)) ?_ hm ?_
   ·rfl
   ·simp [Xp,hp]
   ·intro z hz _ _;obtain rfl:=Qt.wr.inj hz;rfl
  ·have hs4:=h.w i raw x hx (by omega) (by omega);rcases Kv k.cfg k.len hg hp v with ⟨_,e⟩|⟨_,e⟩|⟨_,_,e⟩|⟨_,_,e⟩|⟨_,_,e⟩
   ·refine same _ _ (by show (x.part==9)=false;rw [hp];rfl) (es _ e) J (lw _ J) ?_;intro z hz _ _;obtain rfl:=Qt.wr.inj hz;exact hs4
   ·refine same _ _ (by show (x.part==9)=false;rw [hp];rfl) (es _ e) J (lw _ (Zh.xn _ _ _ _)) ?_;intro z hz _ _;obtain rfl:=Qt.wr.inj hz;exact hs4
   ·refine same _ _ (by show (x.part==9)=false;rw [hp];rfl) (es _ e) J (lw _ (Zh.xn _ _ _ _)) ?_;intro z hz _ _;obtain rfl:=Qt.wr.inj hz;exact hs4
   ·refine same _ _ J (es _ e) (by simp [Xp,hp]) (lw _ J) ?_;intro z hz _ _;obtain rfl:=Qt.wr.inj hz;exact hs4
   ·refine same _ _ J (es _ e) (by simp [Xp,hp]) (lw _ J) ?_;intro z hz _ h7;obtain rfl:=Qt.wr.inj hz;exact absurd h7 (by simp)
  ·have hs4:=h.w i raw x hx (by omega) (by omega);obtain ⟨nx,po,_,_,_,hws,hr⟩:=Bs (v:=v) k.cfg k.len hg hp;have hr2:x.step s.mem.opened v=((x.step s.mem.opened v).1,(x.step s.mem.opened v).2):=J;rcases hr with ⟨_,e⟩|⟨_,_,e⟩|⟨_,_,e⟩
   ·rw [e] at hr2;refine same _ _ (by show (x.part==9)=false;rw [hp];rfl) (es _ hr2) J (lw _ hws) ?_;intro z hz _ _;obtain rfl:=Qt.wr.inj hz;exact hs4
   ·rw [e] at hr2;refine same _ _ (by show (x.part==9)=false;rw [hp];rfl) (es _ hr2) J (lw _ hws) ?_;intro z hz _ _;obtain rfl:=Qt.wr.inj hz;exact hs4
   ·rw [e] at hr2;refine same _ _ (by show ((if 0 < x.ql.length then (6:Int) else 7)==9)=false;split <;> rfl) (es _ hr2) ?_ (lw _ hws) ?_
    ·by_cases hw:0 < x.ql.length <;> simp [Xp,hp,hw]
    ·intro z hz _ _;obtain rfl:=Qt.wr.inj hz;exact hs4
  ·have hs4:=h.w i raw x hx (by omega) (by omega);obtain ⟨n,_,_,_,hws,hr⟩:=Ku (v:=v) k.cfg k.len hg hp;have hr2:x.step s.mem.opened v=((x.step s.mem.opened v).1,(x.step s.mem.opened v).2):=J;have hlow:∀ j < 3,(x.step s.mem.opened v).2.wd j=s.mem.wd j:=λ j hj=>by
    rw [hws];exact Zh.vz _ _ (by unfold Z2;omega) (by unfold Yk;split <;> (try split) <;> omega)
   rcases hr with ⟨_,e⟩|⟨_,_,e⟩|⟨_,_,e⟩
   ·rw [e] at hr2;refine same _ _ (by show (x.part==9)=false;rw [hp];rfl) (es _ hr2) J hlow ?_;intro z hz _ _;obtain rfl:=Qt.wr.inj hz;exact hs4
   ·rw [e] at hr2;refine same _ _ (by show (x.part==9)=false;rw [hp];rfl) (es _ hr2) J hlow ?_;intro z hz _ _;obtain rfl:=Qt.wr.inj hz;exact hs4
   ·rw [e] at hr2;refine same _ _ J (es _ hr2) (by simp [Xp,hp]) hlow ?_;intro z hz _ _;obtain rfl:=Qt.wr.inj hz;exact hs4
  ·have hs4:=h.w i raw x hx (by omega) (by omega);have eu:u64 (x.qg+1)=s.mem.wd 2+1:=by rw [hs4];exact J8 (by omega) (by omega)
   have ew:wrap64 (u64 (x.qg+1))=s.mem.wd 2+1:=by rw [eu];exact Ff (by omega) (by omega)
   have hset:∀ j:Nat,(s.mem.opened.store 2 (u64 (x.qg+1))).wd j=if 2=j then s.mem.wd 2+1 else s.mem.wd j:=λ j=>by
    rw [Zh.zv (by omega) (acc 2 (by omega) (by omega)),eu];rfl
   refine put _ _ ?_ (es _ (Nb hp)) ?_ ?_ ?_
   ·rfl
   ·show Xz ((s.mem.opened.store 2 (u64 (x.qg+1))).wd 0) ((s.mem.opened.store 2 (u64 (x.qg+1))).wd 1) ((s.mem.opened.store 2 (u64 (x.qg+1))).wd 2) _ _;rw [hset,hset,hset,Q9 (by omega),Q9 (by omega),P9 rfl];have:=h.a.um zq J (by show (if x.part=1 then 0 else if x.part=2 then 1 else 2)=2;rw [Q9 (by omega),Q9 (by omega)]) (hg.num (by omega));have e:Xp ⟨raw,I (.wr {x with number:=wrap64 (u64 (x.qg+1)),part:=8})⟩={Xp ⟨raw,I (.wr x)⟩ with number:=s.mem.wd 2+1}:=by
     simp [Xp,hp,ew]
    rw [e];exact this
   ·intro z hz _ h7;obtain rfl:=Qt.wr.inj hz;exact absurd h7 (by simp)
   ·right;intro j raw' x' hj hx' h4 h7;exact hj (h.alone hx' hx (by omega) (by omega))
  ·have tk:=h.qc hx (by omega);have tv:=h.ki hx (by omega);have eu:u64 (x.qc+1)=s.mem.wd 1+1:=by rw [tv];exact J8 (by omega) (by omega)
   have hset:∀ j:Nat,(s.mem.opened.store 1 (u64 (x.qc+1))).wd j=if 1=j then s.mem.wd 1+1 else s.mem.wd j:=λ j=>by
    rw [Zh.zv (by omega) (acc 1 (by omega) (by omega)),eu];rfl
   refine done _ _ ?_ (es _ (Na hp)) ?_ ?_
   ·rfl
   ·show Xz ((s.mem.opened.store 1 (u64 (x.qc+1))).wd 0) ((s.mem.opened.store 1 (u64 (x.qc+1))).wd 1) ((s.mem.opened.store 1 (u64 (x.qc+1))).wd 2) _ _;rw [hset,hset,hset,Q9 (by omega),P9 rfl,Q9 (by omega)];have:=h.a.pass zq J (by show (if x.part=1 then 0 else if x.part=2 then 1 else 2)=2;rw [Q9 (by omega),Q9 (by omega)]) (by omega);have ewt:wrap64 x.qc=x.qc:=Ff (by omega) (by omega);have e:Xp ⟨{raw.join (Qt.told (.wr {x with part:=9})) with ended:=s.steps},O⟩={Xp ⟨raw,I (.wr x)⟩ with ended:=s.steps,ph:=3}:=by
     simp [Xp,hp,Zu.join,Qt.told,Zv.told,hg.tag,ewt]
    rw [e];exact this
   ·show (s.mem.opened.store 1 (u64 (x.qc+1))).wd 2=s.mem.wd 2;rw [hset,Q9 (by omega)]
 |rd y=>
  have hg:Ks s.c0 s.c1 t y:=hg;have hh:y.part=1\/y.part=2\/y.part=3:=by have:=hg.p1;have:=hg.p3;omega
  have es:∀ r,y.step s.mem.opened v=r->Qt.step (.rd y) s.mem.opened v=(.rd r.1,r.2):=λ r e=>by rw [<-e];rfl
  have hr2:y.step s.mem.opened v=((y.step s.mem.opened v).1,(y.step s.mem.opened v).2):=J;rcases hh with hp|hp|hp
  ·rcases Kz (v:=v) k.cfg k.len hg hp with ⟨_,e,hws⟩|⟨_,e,hws⟩|⟨_,e,hws⟩
   ·rw [e] at hr2;refine same _ _ J (es _ hr2) (by simp [Xp,hp]) (lw _ hws) (λ z hz=>by cases hz)
   ·rw [e,hws] at hr2;refine same _ _ J (es _ hr2) (by simp [Xp,hp]) (λ j hj=>?_) (λ z hz=>by cases hz);show (s.mem.opened.store _ _).wd j=_;rw [Zh.xp _ (by omega)];rfl
   ·rw [e] at hr2;have hm:=lw _ hws;refine put _ _ J (es _ hr2) ?_ (λ z hz=>by cases hz) (.inl (hm 2 (by omega)));show Xz ((y.step s.mem.opened v).2.wd 0) ((y.step s.mem.opened v).2.wd 1) ((y.step s.mem.opened v).2.wd 2) _ _;rw [hm 0 (by omega),hm 1 (by omega),hm 2 (by omega)];have:=h.a.qg zq J;have e:Xp ⟨raw,I (.rd {y with qh:={y.qh with n:=3,st:=s.mem.wd 2},part:=2})⟩={Xp ⟨raw,I (.rd y)⟩ with mark:=s.mem.wd 2}:=by simp [Xp]
    rw [e];exact this
  ·obtain ⟨hws,hr⟩:=Bv k.cfg k.len hg hp v;have hgo:∀ (z:Z8) (r:Yu),∃ m rd,(z.zl r s.mem.opened).1={z with m:=m,read:=rd}:=by
    intro z r;unfold Z8.zl;simp only;split
    ·exact ⟨_,_,J⟩
    ·exact ⟨z.m,_,J⟩
   rcases hr with ⟨r,hr,e⟩|⟨hr,h1,e,o⟩|⟨hr,h1,e⟩|⟨hr,h1,e⟩
   ·obtain ⟨m,rd,e2⟩:=hgo y r;rw [e,e2] at hr2;exact same _ _ (by show (y.part==4)=false;rw [hp];rfl) (es _ hr2) (by simp [Xp]) (lw _ hws) (λ z hz=>by cases hz)
   ·obtain ⟨m,rd,e2⟩:=hgo {y with m:=(y.m.step v).1} (Xu s.c0 s.c1 (y.m.step v).2.cell y.qh.st);rw [e,e2] at hr2;exact same _ _ (by show (y.part==4)=false;rw [hp];rfl) (es _ hr2) (by simp [Xp]) (lw _ hws) (λ z hz=>by cases hz)
   ·rw [e] at hr2;exact same _ _ J (es _ hr2) (by simp [Xp,hp]) (lw _ hws) (λ z hz=>by cases hz)
   ·rw [e] at hr2;exact same _ _ (by show (y.part==4)=false;rw [hp];rfl) (es _ hr2) (by simp [Xp]) (lw _ hws) (λ z hz=>by cases hz)
  ·have hw:∀ j < 3,(s.mem.opened.store (3+(t:Int)) 0).wd j=s.mem.wd j:=λ j hj=>by rw [Zh.xp _ (by omega)];rfl
   refine done _ _ J (es _ (Nq k.cfg hg hp)) ?_ (hw 2 (by omega));show Xz ((s.mem.opened.store (3+(t:Int)) 0).wd 0) ((s.mem.opened.store (3+(t:Int)) 0).wd 1) ((s.mem.opened.store (3+(t:Int)) 0).wd 2) _ _;rw [hw 0 (by omega),hw 1 (by omega),hw 2 (by omega)];have:=h.a.leave zq J 3;have o:=h.a.one _ (Ds hx);have hst:=(o.rd J).2;have em:(Xp ⟨raw,I (.rd y)⟩).mark=y.qh.st:=Q9 (by omega);rw [em] at hst;have hb:0<=y.qh.st\/y.qh.st=-1:=by omega
   have ewt:wrap64 y.qh.st=y.qh.st:=Ff (by omega) (by omega);have e:Xp ⟨{raw.join (Qt.told (.rd {y with part:=4})) with ended:=s.steps},O⟩={Xp ⟨raw,I (.rd y)⟩ with ended:=s.steps,ph:=3}:=by
    simp [Xp,hp,Zu.join,Qt.told,Z8.told,hg.tag,ewt]
   rw [e];exact this
theorem Qa.step (h:Qa s) (k:Yi s) (ht:t < s.qi.length) (hs:s.steps+1 < 1000000000) (v:Nat):Qa (s.step t v):=by
 unfold Zn.step;cases hf:(s.th t).fin with
 |true=>rw [P9 rfl];exact h
 |false=>
  rw [Q9 (by simp)];obtain ⟨hr,hl,i,hc⟩:=k.ready ht hf;have ht':t < (s.ready t).qi.length:=by rw [hl];exact ht
  obtain ⟨raw,g,hx,_⟩:=hr.cur t i ht' hc;rw [Ux hc hx];refine (h.ready t hs).zc hr ht' hc hx v ?_;unfold Zn.ready;split
  ·show 0 < s.steps+1;omega
  ·show 0 < s.steps+1;omega
end
section
variable {w0 w w' w1:W} {lab lab' lab1:Nat->Nat} {P P':EP} {s s':Zn} {t i:Nat} {S qJ:List Nat} {raw:Zu} {g:Qt} {r:Qt×Zh}
theorem Jk.refl (h:Ys w0 w lab P s):Jk w0 w lab P s w:=⟨lab,P,h,P3.refl P,Bb.refl w lab⟩
theorem Jk.quiet (h:Jk w0 w lab P s w1) (m:Ze [] w1 w'):Jk w0 w lab P s w':=by
 obtain ⟨l1,P1,e1,q1,f1⟩:=h;exact ⟨l1,P1,e1.quiet m Z3,q1,f1.trans (Bb.quiet m Z3)⟩
theorem Ys.oq (h:Ys w0 w lab P s) (u:Int) (hu:u=((s.steps+1:Nat):Int)):Ys w0 (w.setCell ⟨P.x,15,O⟩ (U Y u)) lab P {s with steps:=s.steps+1}/\Bb w lab (w.setCell ⟨P.x,15,O⟩ (U Y u)) lab:=by
 have m:Ze [P.x] w (w.setCell ⟨P.x,15,O⟩ (U Y u)):=(Zr_ _ _).setCell _ _ (.inl (by simp));have hs:Gl [P.x] w lab [1]:=by intro j hj _;simp at hj;subst hj;simp [h.lx]
 have KK:=h.jo m hs (by simp) (by simp) (by simp) Z3;refine ⟨{hx:=?_,mem:=KK.mem (by simp),j4:=KK.j4 (by simp),prog:=KK.prog,zu:=KK.zu,jn:=λ u hu=>KK.jn u hu (by simp;omega),lt:=KK.lt,call:=KK.call,cur:=h.cur,go:=λ u hu=>KK.go u hu (by simp;omega),ze:=KK.ze (by simp),n1:=h.n1,n8:=h.n8,nt:=h.nt,lx:=KK.lx,la:=KK.la,lb:=KK.lb,lr:=KK.lr,jl:=KK.jl,fr:=KK.fr},Bb.of m hs (by simp) Z3⟩;rw [Zd _ h.hx,hu];rfl
theorem Ys.rounds (h:Ys w0 w lab P s) (R:Qd w' P.r s.c1) (m:Ze [P.r] w w'):Ys w0 w' lab P s/\Bb w lab w' lab:=by
 have hs:Gl [P.r] w lab [3]:=by intro j hj _;simp at hj;subst hj;simp [h.lr]
 have KK:=h.jo m hs (by simp) (by simp) (by simp) Z3;exact ⟨{hx:=KK.hx (by simp),mem:=KK.mem (by simp),j4:=R,prog:=KK.prog,zu:=KK.zu,jn:=λ u hu=>KK.jn u hu (by simp;omega),lt:=KK.lt,call:=KK.call,cur:=h.cur,go:=λ u hu=>KK.go u hu (by simp;omega),ze:=KK.ze (by simp),n1:=h.n1,n8:=h.n8,nt:=h.nt,lx:=KK.lx,la:=KK.la,lb:=KK.lb,lr:=KK.lr,jl:=KK.jl,fr:=KK.fr},Bb.of m hs (by simp) Z3⟩
def Zn.vi (s:Zn) (i:Nat) (raw:Zu) (r:Qt×Zh):Zn:={s with mem:=r.2,qe:=s.qe.set i ⟨raw,I r.1⟩}
theorem goer_set (k:Yi s) {u:Nat} (hu:u < s.qi.length) (ht:t < s.qi.length) (hc:(s.th t).cur=I i) (hne:u≠t) (x:Vb) (m:Zh) (qi:List Qy) (n:Nat) (hth:(qi.getD u Bj).cur=(s.th u).cur):Zn.zi {s with mem:=m,qi:=qi,qe:=s.qe.set i x,steps:=n} u=s.zi u:=by
 unfold Zn.zi;show (match (qi.getD u Bj).cur with|none=>O|some j=>match (s.qe.set i x)[j]? with|some x=>x.g|none=>O)=_;rw [hth];cases hcu:(s.th u).cur with
 |none=>rfl
 |some j=>
  have:i≠j:=by
   rintro rfl;exact hne (k.one hu ht hcu hc)
  simp only;rw [List.getElem?_set_ne this];rfl
theorem Ys.vi (h:Ys w0 w lab P s) (k:Yi s) (ht:t < s.qi.length) (hc:(s.th t).cur=I i) (hx:s.qe[i]? =I ⟨raw,I g⟩) {B B':List Nat} (hB:∀ n∈B,lab n=30+t)
  (M:Zj 137 w' P.a P.b r.2) (F:I5 w (P.a :: P.b :: B) w' (P.a :: P.b :: B')) (hG:∀ lab',(∀ n∈B',n≠P.a->n≠P.b->lab' n=30+t)->Mq w' lab' (30+t) (P.gv t) (I r.1)):
  ∃ lab',Ys w0 w' lab' P (s.vi i raw r)/\Bb w lab w' lab':=by
 have ha:Ji w lab (Pp lab w.heap.size (30+t)):=Ui _;have h8:=h.n8;have hs:Gl (P.a :: P.b :: B) w lab [2,30+t]:=by
  intro j hj _;simp only [List.mem_cons] at hj;rcases hj with rfl|rfl|hj
  ·simp [h.la]
  ·simp [h.lb]
  ·simp [hB j hj]
 have h0:0∉[2,30+t]:=by intro q;simp at q;omega
 have KK:=h.jo F.md hs h0 (by intro q;simp at q;omega) (by intro q;simp at q;omega) ha;have hraw:s.qe.map (·.raw)=(s.qe.set i ⟨raw,I r.1⟩).map (·.raw):=by
  rw [List.map_set];refine (Fj ?_).symm;rw [List.getElem?_map,hx];rfl
 refine ⟨Pp lab w.heap.size (30+t),{hx:=KK.hx (by intro q;simp at q;omega),mem:=M,j4:=KK.j4 (by intro q;simp at q;omega),prog:=KK.prog,zu:=KK.zu,jn:=λ u hu=>KK.jn u hu (by intro q;have hu:u < s.qi.length:=hu;simp at q;omega),lt:=KK.lt,call:=KK.call,cur:=h.cur,go:=λ u hu=>?_,ze:=?_,n1:=h.n1,n8:=h.n8,nt:=h.nt,lx:=KK.lx,la:=KK.la,lb:=KK.lb,lr:=KK.lr,jl:=KK.jl,fr:=KK.fr},Bb.of F.md hs h0 ha⟩
 ·have hu:u < s.qi.length:=hu
  by_cases e:u=t
  ·subst e;have e2:(s.vi i raw r).zi u=I r.1:=by
    unfold Zn.zi;show (match (s.th u).cur with|none=>O|some j=>match (s.qe.set i ⟨raw,I r.1⟩)[j]? with|some x=>x.g|none=>O)=_;rw [hc];have hi:=(List.getElem?_eq_some_iff.1 hx).1;simp [hi]
   rw [e2];refine hG _ (λ n hn ha' hb'=>?_);rcases F.gr n (by simp [hn]) with hm|hm
   ·simp only [List.mem_cons] at hm;rcases hm with rfl|rfl|hm
    ·exact absurd J ha'
    ·exact absurd J hb'
    ·by_cases hl:n < w.heap.size
     ·rw [ha n hl];exact hB n hm
     ·exact Jx (by omega)
   ·exact Jx hm
  ·have e2:(s.vi i raw r).zi u=s.zi u:=goer_set k hu ht hc e _ _ s.qi s.steps J;rw [e2];exact KK.go u hu (by intro q;simp at q;omega)
 ·show Kl w' _ 5 6 P.vd ((s.qe.set i ⟨raw,I r.1⟩).map (·.raw)) P.es;rw [<-hraw];exact KK.ze (by intro q;simp at q;omega)
def Q0 (w0 w:W) (lab:Nat->Nat) (P:EP) (s:Zn) (i:Nat) (raw:Zu) (g:Qt) (b:Bool) (w':W):Prop:=
 ∃ v,b=(g.step s.mem.opened v).1.qf/\Jk w0 w lab P (s.vi i raw (g.step s.mem.opened v)) w'
theorem Q0.quiet {b:Bool} (h:Q0 w0 w lab P s i raw g b w1) (m:Ze [] w1 w'):Q0 w0 w lab P s i raw g b w':=by
 obtain ⟨v,h1,h2⟩:=h;exact ⟨v,h1,h2.quiet m⟩
theorem cf229 (args:Array Value) (w:W):(callFunc 229 args).run N w=.ok (.enter 229 args) w:=by kernel_rfl
theorem cf234 (args:Array Value) (w:W):(callFunc 234 args).run N w=.ok (.enter 234 args) w:=by kernel_rfl
theorem cf227 (args:Array Value) (w:W):(callFunc 227 args).run N w=.ok (.enter 227 args) w:=by kernel_rfl
theorem cf232 (args:Array Value) (w:W):(callFunc 232 args).run N w=.ok (.enter 232 args) w:=by kernel_rfl
theorem Ys.stepC (h:Ys w0 w lab P s) (k:Yi s) (ht:t < s.qi.length) (hc:(s.th t).cur=I i) (hx:s.qe[i]? =I ⟨raw,I g⟩):
  ∃ ti qk f D,P.gv t=.iface ti (E (I ⟨qk,0,O⟩))/\(∀ v w,(method 393 ti v "Step").run N w=.ok (f,v) w)/\(∀ args w,(callFunc f args).run N w=.ok (.enter f args) w)/\(∀ n∈D,lab n=2\/lab n=30+t)/\
   ∀ wx,Ze [] w wx->Calls N f #[E (I ⟨qk,0,O⟩),E (I ⟨P.a,0,O⟩)] wx (λ e w'=>∃ b,e=R_ (.tuple #[.bool b,U Y 0])/\Q0 w0 w lab P s i raw g b w'/\Ze D wx w'):=by
 have hgo:s.zi t=I g:=by unfold Zn.zi;rw [hc];simp [hx]
 obtain ⟨u,hu,hcu,_,hG⟩:=k.tx i raw g hx;obtain rfl:=k.one ht hu hc hcu;have G:=h.go t ht;rw [hgo] at G;have hlen:=k.len;cases g with
 |wr y=>
  have hG:Jv s.c0 s.c1 y:=hG;obtain ⟨q,e,hq,hnx,hb⟩:=G;refine ⟨140,q.k,229,P.a :: P.b :: q.blocks,e,Sx,cf229,?_,λ wx m=>?_⟩
  ·intro n hn;simp only [List.mem_cons] at hn;rcases hn with rfl|rfl|hn
   ·exact .inl h.la
   ·exact .inl h.lb
   ·exact .inr (hb n hn)
  ·have hW:=h.quiet m Z3;refine (Ok (hq.mod m (by simp)) hW.mem (hnx hG.p8) hG.ok (by rw [hG.k0,hG.k1];omega)).mono ?_;rintro e w' ⟨v,rfl,n,⟨q',h1,h2,h3,h4,h5,h6⟩,h7⟩;obtain ⟨lab',hE,hF⟩:=hW.vi (r:=(Qt.step (.wr y) s.mem.opened v)) k ht hc hx (B:=q.blocks) (B':=q'.blocks) hb h2 h3 (λ lab' hl=>⟨q',by rw [h4];exact e,h1,λ hp=>h6.trans (h7 hp),λ n hn=>hl n hn (λ q=>h1.zn h2 (q ▸ hn)) (λ q=>h1.zm h2 (q ▸ hn))⟩);exact ⟨_,J,⟨v,J,lab',P,hE,P3.refl P,(Bb.quiet m Z3).trans hF⟩,h3.md⟩
 |rd y=>
  have hG:Ks s.c0 s.c1 t y:=hG;obtain ⟨q,e,hq,hb⟩:=G;refine ⟨142,q.k,234,P.a :: P.b :: q.blocks,e,Sw,cf234,?_,λ wx m=>?_⟩
  ·intro n hn;simp only [List.mem_cons] at hn;rcases hn with rfl|rfl|hn
   ·exact .inl h.la
   ·exact .inl h.lb
   ·exact .inr (hb n hn)
  ·have hW:=h.quiet m Z3;refine (Eg (hq.mod m (by simp)) hW.mem hG.ok (by rw [hG.k0,hG.k1];omega)).mono ?_;rintro e w' ⟨v,rfl,q',h1,h2,h3,h4,h5,h6⟩;obtain ⟨lab',hE,hF⟩:=hW.vi (r:=(Qt.step (.rd y) s.mem.opened v)) k ht hc hx (B:=q.blocks) (B':=q'.blocks) hb h2 h3 (λ lab' hl=>⟨q',by rw [h4];exact e,h1,λ n hn=>hl n hn (λ q=>h1.zn h2 (q ▸ hn)) (λ q=>h1.zm h2 (q ▸ hn))⟩);exact ⟨_,J,⟨v,J,lab',P,hE,P3.refl P,(Bb.quiet m Z3).trans hF⟩,h3.md⟩
theorem Gk.arr {d:Zu} {e:Ending} (h:Gk w d e w') (h1:d.th=0) (h2:d.no=0) (h3:d.prog=0) (h4:d.bgn=0) (h5:d.ended=0):∃ y:DX,e=R_ (.agg (Z9 d y).toArray)/\Xq w.heap.size d.args y.va w'/\Ql w.heap.size d.reads y.vr w'/\Ql w.heap.size d.writes y.vw w'/\Xq w.heap.size d.out y.vo w'/\Ze [] w w':=by
 obtain ⟨st,va,vr,vw,vo,rfl,a1,a2,a3,a4,m⟩:=h;refine ⟨⟨va,vr,vw,vo,st,0,0,0⟩,?_,a1,a2,a3,a4,m⟩;unfold Z9 Qk;rw [h1,h2,h3,h4,h5]
theorem O0 (g:Qt):g.told.th=0/\g.told.no=0/\g.told.prog=0/\g.told.bgn=0/\g.told.ended=0:=by
 cases g with
 |wr x=>exact ⟨J,J,J,J,J⟩
 |rd y=>exact ⟨J,J,J,J,J⟩
def Av (w:W) (d:Zu) (e:Ending) (w':W):Prop:=∃ y:DX,e=R_ (.agg (Z9 d y).toArray)/\Xq w.heap.size d.args y.va w'/\Ql w.heap.size d.reads y.vr w'/\Ql w.heap.size d.writes y.vw w'/\Xq w.heap.size d.out y.vo w'/\Ze [] w w'
theorem Ys.oh (h:Ys w0 w lab P s) (ht:t < s.qi.length) (hgo:s.zi t=I g) (hT:Ro g):
  ∃ ti qk f,P.gv t=.iface ti (E (I ⟨qk,0,O⟩))/\(∀ v w,(method 393 ti v "Deed").run N w=.ok (f,v) w)/\(∀ args w,(callFunc f args).run N w=.ok (.enter f args) w)/\∀ wx,Ze [] w wx->Calls N f #[E (I ⟨qk,0,O⟩)] wx (Av wx g.told):=by
 have G:=h.go t ht;rw [hgo] at G;obtain ⟨z1,z2,z3,z4,z5⟩:=O0 g;cases g with
 |wr y=>
  obtain ⟨q,e,hq,_,_⟩:=G;obtain ⟨t1,t2⟩:Ym y.m/\y.args.length<=8:=hT;refine ⟨140,q.k,227,e,Nv,cf227,λ wx m=>?_⟩;exact (A9 (hq.mod m (by simp)) t1 (by omega)).mono (λ e w' h=>Gk.arr h z1 z2 z3 z4 z5)
 |rd y=>
  obtain ⟨q,e,hq,_⟩:=G;obtain ⟨t1,t2⟩:Ym y.m/\y.args.length<=8:=hT;refine ⟨142,q.k,232,e,Sy,cf232,λ wx m=>?_⟩;exact (rdeed_c (hq.mod m (by simp)) t1 (by omega)).mono (λ e w' h=>Gk.arr h z1 z2 z3 z4 z5)
theorem Wx {α:Type} {l:List α} {i:Nat} {a d:α} (h:i < l.length):(l.set i a).getD i d=a:=by
 simp [G_,h]
theorem Ww {α:Type} {l:List α} {i j:Nat} {a d:α} (h:i≠j):(l.set i a).getD j d=l.getD j d:=by
 simp [G_,h]
theorem Ys.laid (h:Ys w0 w lab P s) (hx:s.qe[i]? =I ⟨raw,I g⟩) (d:Zu) (x:DX) {dg n0:Nat} (hvd:P.vd.ownBlock=I dg) (m:Ze [dg] w w')
  (hrow:w'.ownsRow 0 50 19 P.vd s.qe.length (Va ((s.qe.map (·.raw)).set i d) (P.es.set i x)))
  (h1:Xq n0 d.args x.va w') (h2:Ql n0 d.reads x.vr w') (h3:Ql n0 d.writes x.vw w') (h4:Xq n0 d.out x.vo w') (hn0:w.heap.size<=n0):
  ∃ lab',Ys w0 w' lab' {P with es:=P.es.set i x} {s with qe:=s.qe.set i ⟨d,I g⟩}/\Bb w lab w' lab':=by
 have ha:Ji w lab (Pp lab w.heap.size 6):=Ui _;have hi:=(List.getElem?_eq_some_iff.1 hx).1;have hdo:=h.ze.row.own _ hvd;have hs:Gl [dg] w lab [5]:=by intro j hj _;simp at hj;subst hj;simp [hdo]
 have KK:=h.jo m hs (by simp) (by simp) (by simp) ha;have hle:=h.ze.len;have hdl:(s.qe.map (·.raw)).length=s.qe.length:=by simp
 have new:∀ {ty:TypeId} {z n:Nat} {xs:List Value} {v:Value},Yb n0 ty z n xs v w'->Uj w' (Pp lab w.heap.size 6) 6 ty z xs n v:=λ hr=>⟨hr.1,λ g hg=>Jx (Nat.le_trans hn0 (hr.2 g hg))⟩;refine ⟨Pp lab w.heap.size 6,{hx:=KK.hx (by simp),mem:=KK.mem (by simp),j4:=KK.j4 (by simp),prog:=KK.prog,zu:=KK.zu,jn:=λ u hu=>KK.jn u hu (by simp;omega),lt:=KK.lt,call:=KK.call,cur:=h.cur,go:=λ u hu=>?_,ze:=?_,n1:=h.n1,n8:=h.n8,nt:=h.nt,lx:=KK.lx,la:=KK.la,lb:=KK.lb,lr:=KK.lr,jl:=KK.jl,fr:=KK.fr},Bb.of m hs (by simp) ha⟩
 ·have e2:Zn.zi {s with qe:=s.qe.set i ⟨d,I g⟩} u=s.zi u:=by
   unfold Zn.zi;show (match (s.th u).cur with|none=>O|some j=>match (s.qe.set i ⟨d,I g⟩)[j]? with|some x=>x.g|none=>O)=_;cases hcu:(s.th u).cur with
   |none=>rfl
   |some j=>
    show (match (s.qe.set i ⟨d,I g⟩)[j]? with|some x=>x.g|none=>O)=(match s.qe[j]? with|some x=>x.g|none=>O)
    by_cases e:i=j
    ·subst e;rw [List.getElem?_set_self hi,hx]
    ·rw [List.getElem?_set_ne e]
  rw [e2];exact KK.go u hu (by simp;omega)
 ·show Kl w' _ 5 6 P.vd ((s.qe.set i ⟨d,I g⟩).map (·.raw)) (P.es.set i x);rw [List.map_set];refine ⟨by simp [hle],⟨?_,λ g hg=>?_⟩,λ j hj=>?_⟩
  ·rw [List.length_set,List.length_map];exact hrow
  ·rw [hvd] at hg;obtain rfl:=Zo_ hg;have hl:=Yr h.ze.row.row hvd;rw [ha _ hl];exact hdo
  ·have hj':j < s.qe.length:=by simpa using hj
   by_cases e:i=j
   ·subst e;rw [Wx (by rw [hdl];exact hi),Wx (by rw [hle,hdl];exact hi)];exact ⟨new h1,new h2,new h3,new h4⟩
   ·rw [Ww e,Ww e];exact (h.ze.rows j (by simpa using hj')).carry m hs (by simp) ha
theorem Ys.freed (h:Ys w0 w lab P s) (ht:t < s.qi.length) (hx:s.qe[i]? =I ⟨raw,I g⟩) (hne:∀ u,u < s.qi.length->u≠t->(s.th u).cur≠I i):
  Ys w0 (w.setCell ⟨P.kt t,2,O⟩ .nilIface) lab {P with gv:=λ u=>if u=t then .nilIface else P.gv u} {s with qi:=s.qi.set t {s.th t with cur:=O},qe:=s.qe.set i ⟨raw,O⟩}/\Bb w lab (w.setCell ⟨P.kt t,2,O⟩ .nilIface) lab:=by
 have m:Ze [P.kt t] w (w.setCell ⟨P.kt t,2,O⟩ .nilIface):=(Zr_ _ _).setCell _ _ (.inl (by simp));have hs:Gl [P.kt t] w lab [10+t]:=by intro j hj _;simp at hj;subst hj;simp [h.lt t ht]
 have h0:0∉[10+t]:=by intro q;simp at q;omega
 have h8:=h.n8;have KK:=h.jo m hs h0 (by intro q;simp at q;omega) (by intro q;simp at q;omega) Z3;obtain ⟨s',hs'⟩:∃ s':Zn,s'={s with qi:=s.qi.set t {s.th t with cur:=O},qe:=s.qe.set i ⟨raw,O⟩}:=⟨_,J⟩;rw [<-hs'];have hth:∀ u,s'.th u=if u=t then {s.th t with cur:=O} else s.th u:=λ u=>by rw [hs'];exact Hm _ _ _ _ ht
 have hl:s'.qi.length=s.qi.length:=by rw [hs'];simp
 have hraw:s'.qe.map (·.raw)=s.qe.map (·.raw):=by
  rw [hs'];show (s.qe.set i ⟨raw,O⟩).map (·.raw)=_;rw [List.map_set];refine Fj ?_;rw [List.getElem?_map,hx];rfl
 have e0:s'.c0=s.c0/\s'.c1=s.c1/\s'.c2=s.c2/\s'.c3=s.c3/\s'.progs=s.progs/\s'.mem=s.mem/\s'.steps=s.steps:=by rw [hs'];exact ⟨J,J,J,J,J,J,J⟩
 obtain ⟨q0,q1,q2,q3,q4,q5,q6⟩:=e0;refine ⟨{hx:=?_,mem:=by rw [q5];exact KK.mem (by intro q;simp at q;omega),j4:=by rw [q1];exact KK.j4 (by intro q;simp at q;omega),prog:=by rw [q4];exact KK.prog,zu:=by rw [hl];exact KK.zu,jn:=λ u hu=>?_,lt:=λ u hu=>KK.lt u (by rw [<-hl];exact hu),call:=λ u hu=>?_,cur:=λ u j hu hj=>?_,go:=λ u hu=>?_,ze:=by rw [hraw];exact KK.ze (by intro q;simp at q;omega),n1:=by rw [hl];exact h.n1,n8:=by rw [hl];exact h.n8,nt:=by rw [q1,hl];exact h.nt,lx:=KK.lx,la:=KK.la,lb:=KK.lb,lr:=KK.lr,jl:=KK.jl,fr:=KK.fr},Bb.of m hs h0 Z3⟩
 ·have:=KK.hx (by intro q;simp at q;omega);unfold Gg at this ⊢
  rw [q0,q1,q2,q3,q6];exact this
 ·rw [hl] at hu;rw [hth]
  by_cases e:u=t
  ·subst e;simp only [if_true];rw [Zd _ (h.jn u ht)];rfl
  ·simp only [Q9 e];exact KK.jn u hu (by intro q;simp at q;omega)
 ·rw [hl] at hu;rw [hth];have:=KK.call u hu
  by_cases e:u=t
  ·subst e;rw [P9 rfl];exact this
  ·rw [Q9 e];exact this
 ·rw [hl] at hu;rw [hth] at hj
  by_cases e:u=t
  ·rw [P9 e] at hj;cases hj
  ·rw [Q9 e] at hj;exact h.cur u j hu hj
 ·rw [hl] at hu;show Mq _ lab (30+u) (if u=t then .nilIface else P.gv u) (s'.zi u)
  by_cases e:u=t
  ·have e2:s'.zi u=O:=by
    unfold Zn.zi;rw [hth,P9 e]
   rw [e2,P9 e];rfl
  ·have e2:s'.zi u=s.zi u:=by
    unfold Zn.zi;rw [hth,Q9 e];cases hcu:(s.th u).cur with
    |none=>rfl
    |some j=>
     have hij:i≠j:=by
      rintro rfl;exact hne u hu e hcu
     show (match s'.qe[j]? with|some x=>x.g|none=>O)=(match s.qe[j]? with|some x=>x.g|none=>O);rw [hs'];show (match (s.qe.set i ⟨raw,O⟩)[j]? with|some x=>x.g|none=>O)=_;rw [List.getElem?_set_ne hij]
   rw [e2,Q9 e];exact KK.go u hu (by intro q;simp at q;omega)
end
section
section
variable {P:Program}
theorem Uz (g o j:Nat):(⟨g,o,O⟩:Addr).add j=⟨g,o+j,O⟩:=by unfold Addr.add;split <;> simp_all
theorem Ky (w:W) (a:Addr) (ty:TypeId) (cs:Array Value) (d:TypeDesc) (hc:∀ j v,cs.toList[j]? =I v->w.cell? (a.add j)=I v)
  (hu:P.underlying ty=I d) (hd:(match d with|.struct _|.array _ _=>true|_=>false)=true) (hi:(P.info? ty).map (·.size)=I cs.size):
  (loadVar ty a).run P w=.ok (.agg cs) w:=by
 have hl:(loadCells a cs.toList.length).run P w=.ok cs.toList.toArray w:=run_loadCells_list (P:=P) w a cs.toList hc;cases hq:P.info? ty with
 |none=>simp [hq] at hi
 |some i=>
  have hs:i.size=cs.size:=by simpa [hq] using hi
  have hagg:(isAgg ty).run P w=.ok true w:=by
   unfold isAgg;rw [Sem.run_bind,run_underlying hu w];cases d <;> simp_all
  simp only [Array.length_toList,Array.toArray_toList] at hl;simp [loadVar,Sem.run_bind,hagg,sizeOf,typeInfo,hq,hs,hl]
theorem Mo {w:W} {o:Oper} {a:Act} {K:Value->W->Prop} (ty:TypeId) (x:Operand) (ho:o.op=.load ty x)
  (ad:Addr) (hx:a.eval x=E (I ad)) (cs:Array Value) (d:TypeDesc) (hc:∀ j v,cs.toList[j]? =I v->w.cell? (ad.add j)=I v)
  (hu:P.underlying ty=I d) (hd:(match d with|.struct _|.array _ _=>true|_=>false)=true) (hi:(P.info? ty).map (·.size)=I cs.size)
  (h:K (.agg cs) w):J4 P K ((execOp a.eval o).run P w):=by
 unfold execOp;simp only [ho,hx,Instr.loadAt,Instr.sureAddr,Sem.run_bind,Sem.run_pure,Result.andThen_ok,Ky w ad ty cs d hc hu hd hi];exact h
theorem Kt {ops:Array Oper} {rest:List Oper} {o:Oper} {a:Act} {w:W} {Q:Exit->Act->W->Prop} (hgd:o.guard=O) (ty:TypeId) (x:Operand) (ho:o.op=.load ty x)
  (ad:Addr) (hx:a.eval x=E (I ad)) (cs:Array Value) (d:TypeDesc) (hc:∀ j v,cs.toList[j]? =I v->w.cell? (ad.add j)=I v)
  (hu:P.underlying ty=I d) (hd:(match d with|.struct _|.array _ _=>true|_=>false)=true) (hi:(P.info? ty).map (·.size)=I cs.size)
  (h:wpList P ops Q rest (a.put o.dst (.agg cs)) w):wpList P ops Q (o :: rest) a w:=
 wpList_plain hgd λ _ hK=>by
  unfold Oper.wp execOp;simp only [ho,hx,Instr.loadAt,Instr.sureAddr,Sem.run_bind,Sem.run_pure,Result.andThen_ok,Ky w ad ty cs d hc hu hd hi];exact hK _ _ h
theorem Pz (w:W) (g o:Nat) (t ty:TypeId) (cur cells:Array Value) (hg:w.heap[g]? =I (.cells cur t (0,0))) (hi:(P.info? ty).map (·.size)=I cells.size)
  (hl:o+cells.size<=cur.size) (h1:∀ v∈cells.toList,v.oneCell'=true):
  (storeVar ty ⟨g,o,O⟩ (.agg cells)).run P w=.ok () (w.setRow g (cur.toList.take o++cells.toList++cur.toList.drop (o+cells.size)).toArray):=by
 have:=run_storeCells_at (P:=P) g o t cells.toList 0 cur w hg (by simp;omega) h1;cases hq:P.info? ty with
 |none=>simp [hq] at hi
 |some i=>
  have hs:cells.size=i.size:=by simp [hq] at hi;omega
  simp only [Nat.add_zero,Array.length_toList] at this;simp [storeVar,sizeOf,typeInfo,hq,Value.cells,hs];rw [this];simp [hs]
theorem Py {ops:Array Oper} {rest:List Oper} {o:Oper} {a:Act} {w:W} {Q:Exit->Act->W->Prop} (hgd:o.guard=O) (ty:TypeId) (x y:Operand) (ho:o.op=.store ty x y)
  (g off:Nat) (cells:Array Value) (hx:a.eval x=E (I ⟨g,off,O⟩)) (hy:a.eval y=.agg cells)
  (t:TypeId) (cur:Array Value) (hg:w.heap[g]? =I (.cells cur t (0,0))) (hi:(P.info? ty).map (·.size)=I cells.size)
  (hl:off+cells.size<=cur.size) (h1:∀ v∈cells.toList,v.oneCell'=true)
  (h:wpList P ops Q rest (a.put o.dst undef) (w.setRow g (cur.toList.take off++cells.toList++cur.toList.drop (off+cells.size)).toArray)):wpList P ops Q (o :: rest) a w:=
 wpList_plain hgd λ _ hK=>by
  unfold Oper.wp execOp;simp only [ho,hx,hy,Instr.storeAt,Instr.sureAddr,Sem.run_bind,Sem.run_pure,Result.andThen_ok,Pz w g off t ty cur cells hg hi hl h1];exact hK _ _ h
end
theorem O1 {w:W} {base e size g n cap:Nat} {xs:List Value} (h:w.ownsRow base e size (L (I ⟨g,0,O⟩) n cap) n xs) (cs:List Value) (o:Nat) (ho:o+cs.length<=n * size):
  ∃ cur:Array Value,w.heap[g]? =I (.cells cur e (0,0))/\o+cs.length<=cur.size/\(w.setRow g (cur.toList.take o++cs++cur.toList.drop (o+cs.length)).toArray).ownsRow base e size (L (I ⟨g,0,O⟩) n cap) n (xs.take o++cs++xs.drop (o+cs.length)):=by
 rcases h.2 with ⟨h',_⟩|⟨g',cap',cur,h',hb,hg,hnc,hcm,hcs,htake⟩
 ·simp at h'
 ·simp only [Value.slice.injEq,Option.some.injEq,Addr.mk.injEq,and_true,true_and] at h';obtain ⟨rfl,rfl⟩:=h';have hle:n * size<=cap * size:=Nat.mul_le_mul_right _ hnc;have hlen:cur.toList.length=cap * size:=by simpa using hcs
  have hxl:xs.length=n * size:=h.1;refine ⟨cur,hg,by rw [hcs];omega,?_,.inr ⟨g,cap,_,rfl,hb,setRow_heap w g cur _ e _ hg,hnc,hcm,?_,?_⟩⟩
  ·simp;omega
  ·simp;omega
  ·rw [<-htake];apply List.ext_getElem?;intro j;simp only [List.getElem?_take,List.getElem?_append,List.getElem?_drop,List.length_append,List.length_take]
   grind
theorem flat_row {z:Nat} {rows:List (List Value)} (hz:∀ x∈rows,x.length=z) {i:Nat} (hi:i < rows.length) (r:List Value):rows.flatten.take (i * z)++r++rows.flatten.drop (i * z+z)=(rows.set i r).flatten:=by
 induction rows generalizing i with
 |nil=>simp at hi
 |cons x rows ih=>
  have hx:=hz x (by simp);cases i with
  |zero=>simp [<-hx]
  |succ i=>
   have:=ih (λ y hy=>hz y (by simp [hy])) (by simpa using hi);simp only [List.flatten_cons,List.set_cons_succ,<-this];rw [Nat.succ_mul,show i * z+z=x.length+i * z by omega,List.take_append,List.take_of_length_le (by omega),Nat.add_sub_cancel_left,show x.length+i * z+z=x.length+(i * z+z) by omega,List.drop_append,List.drop_of_length_le (by omega)];simp;rw [hx,Nat.add_comm]
theorem Il {l:List Zu} {es:List DX} (he:es.length=l.length) {i:Nat} (hi:i < l.length) (d:Zu) (x:DX):(Va l es).take (i * 19)++Z9 d x++(Va l es).drop (i * 19+19)=Va (l.set i d) (es.set i x):=by
 unfold Va;rw [flat_row Fa (by simp;omega),Ay]
end
end Go.Proofs.YtkhonmhnchdpkaaGreat
