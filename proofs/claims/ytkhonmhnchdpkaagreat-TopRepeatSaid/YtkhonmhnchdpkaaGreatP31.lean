/- A part of the proof; no condition. -/
import Derived.Test.YtkhonmhnchdpkaaGreatP30
import Derived.Laws.CopyRow
set_option maxRecDepth 100000
set_option maxHeartbeats 40000000
namespace Go.Proofs.YtkhonmhnchdpkaaGreat
open Go.RowKit _root_.Go.Proofs.Tryz
section
structure AT where
 wr:Bool
 (mark number ended bgn:Int)
 ph:Nat
def Ba (x:AT):Bool:=decide (0 < x.number)
def Aq (l:List AT):Nat:=l.countP Ba
def J7 (b:Int) (x:AT):Bool:=decide (0 < x.number/\0 < x.ended/\x.ended < b)
def W8 (l:List AT) (b:Int):Nat:=l.countP (J7 b)
def drawn (x:AT):Bool:=x.wr&&decide (1<=x.ph)
structure T5 (N V K st:Int) (l:List AT) (x:AT):Prop where
 rd:x.wr=false->x.number=0/\(x.mark=-1\/(0<=x.mark/\x.mark<=K/\(W8 l x.bgn:Int)<=x.mark))
 w0:x.wr=true->x.ph=0->x.mark=-1/\x.number=0/\x.ended=0
 w1:x.wr=true->x.ph=1->V<=x.mark/\x.mark < N/\x.number=0/\x.ended=0
 w2:x.wr=true->x.ph=2->x.mark=V/\V < N/\0<=x.number/\x.number<=K/\x.ended=0
 w3:x.wr=true->3<=x.ph->0<=x.mark/\x.mark < V/\0<=x.number/\x.number<=K/\0 < x.ended
 en:0<=x.ended/\x.ended<=st
 bg:x.bgn<=st
structure T1 (x y:AT):Prop where
 ne:x.mark≠y.mark
 num:x.mark < y.mark->0 < x.number->0 < y.number->x.number < y.number
 end':x.mark < y.mark->0 < y.ended->x.ended<=y.ended
structure Xt (N V K st:Int) (l:List AT):Prop where
 N0:0<=N
 V0:0<=V
 VN:V<=N
 st0:0<=st
 dr:(l.countP drawn:Int)=N
 pu:(Aq l:Int)=K
 one:∀ x∈l,T5 N V K st l x
 two:∀ (i j:Nat) (x y:AT),l[i]? =some x->l[j]? =some y->i≠j->x.wr=true->y.wr=true->0<=x.mark->0<=y.mark->T1 x y
theorem Xt.init:Xt 0 0 0 0 []:=⟨by omega,by omega,by omega,by omega,rfl,rfl,by simp,by simp⟩
theorem Lx (l:List AT) (x:AT) (b:Int) (h:x.number=0):W8 (l++[x]) b=W8 l b:=by
 unfold W8;rw [List.countP_append];simp [J7,h]
theorem Xt.tick {N V K st:Int} {l:List AT} (h:Xt N V K st l):Xt N V K (st+1) l:=
 ⟨h.N0,h.V0,h.VN,by have:=h.st0;omega,h.dr,h.pu,λ x hx=>by
  obtain ⟨a,b,c,d,e,f,g⟩:=h.one x hx;exact ⟨a,b,c,d,e,by omega,by omega⟩,h.two⟩
theorem Xt.begin {N V K st:Int} {l:List AT} (h:Xt N V K st l) (wr:Bool):Xt N V K st (l++[⟨wr,-1,0,0,st,0⟩]):=by
 refine ⟨h.N0,h.V0,h.VN,h.st0,?_,?_,?_,?_⟩
 ·rw [List.countP_append,<-h.dr];simp [drawn]
 ·unfold Aq;rw [List.countP_append,<-h.pu];simp [Aq,Ba]
 ·intro x hx;have h0:=h.st0;rw [List.mem_append,List.mem_singleton] at hx;rcases hx with hx|rfl
  ·obtain ⟨a,b,c,d,e,f,g⟩:=h.one x hx;exact ⟨by rw [Lx _ _ _ rfl];exact a,b,c,d,e,f,g⟩
  ·exact ⟨λ _=>⟨rfl,.inl rfl⟩,λ _ _=>⟨rfl,rfl,rfl⟩,λ _ hp=>absurd hp (by simp),λ _ hp=>absurd hp (by simp),λ _ hp=>absurd hp (by simp),by simp;omega,by simp⟩
 ·intro i j x y hi hj hne hx hy hmx hmy;rw [List.getElem?_append] at hi hj;split at hi
  ·split at hj
   ·exact h.two i j x y hi hj hne hx hy hmx hmy
   ·simp only [List.getElem?_singleton] at hj;split at hj
    ·simp at hj;subst hj;simp at hmy
    ·cases hj
  ·simp only [List.getElem?_singleton] at hi;split at hi
   ·simp at hi;subst hi;simp at hmx
   ·cases hi
theorem Gj {p:AT->Bool} {l:List AT} {i:Nat} {x:AT} (hi:l[i]? =some x) (y:AT):(l.set i y).countP p+(if p x=true then 1 else 0)=l.countP p+(if p y=true then 1 else 0):=by
 induction l generalizing i with
 |nil=>simp at hi
 |cons a l ih=>
  cases i with
  |zero=>
   simp at hi;subst hi;simp only [List.set_cons_zero,List.countP_cons];omega
  |succ i=>
   simp at hi;have:=ih hi;simp only [List.set_cons_succ,List.countP_cons];omega
theorem cnt_set {l:List AT} {i:Nat} {x:AT} (hi:l[i]? =some x) (y:AT) (b:Int) (h:J7 b x=J7 b y):W8 (l.set i y) b=W8 l b:=by
 have:=Gj (p:=J7 b) hi y;unfold W8;rw [h] at this;omega
theorem mem_set {l:List AT} {i:Nat} {y z:AT} (h:z∈l.set i y):z=y\/∃ j,j≠i/\l[j]? =some z:=by
 obtain ⟨j,hj⟩:=List.getElem?_of_mem h;rw [List.getElem?_set] at hj;split at hj
 ·split at hj
  ·left;simpa using hj.symm
  ·cases hj
 ·right;exact ⟨j,by omega,hj⟩
theorem cnt_le (l:List AT) (b:Int):W8 l b<=Aq l:=by
 unfold W8 Aq;refine List.countP_mono_left (λ x _ h=>?_);simp only [J7,Ba,decide_eq_true_eq] at *
 exact h.1
theorem Xt.turn {N V K st N' V' K':Int} {l:List AT} (h:Xt N V K st l) {i:Nat} {x y:AT} (hi:l[i]? =some x)
  (hN:0<=N') (hV:0<=V') (hVN:V'<=N') (hd:N+(if drawn y=true then 1 else 0)=N'+(if drawn x=true then 1 else 0)) (hp:K+(if Ba y=true then 1 else 0)=K'+(if Ba x=true then 1 else 0))
  (he:∀ b,b<=st->J7 b x=J7 b y) (hbx:y.bgn<=st)
  (hy:T5 N' V' K' st l y) (hz:∀ z j,j≠i->l[j]? =some z->T5 N' V' K' st l z)
  (hxy:∀ z j,j≠i->l[j]? =some z->y.wr=true->z.wr=true->0<=y.mark->0<=z.mark->T1 y z/\T1 z y):Xt N' V' K' st (l.set i y):=by
 have hc:∀ b,b<=st->W8 (l.set i y) b=W8 l b:=λ b hb=>cnt_set hi y b (he b hb);have conv:∀ z,T5 N' V' K' st l z->T5 N' V' K' st (l.set i y) z:=by
  rintro z ⟨a,b,c,d,e,f,g⟩;exact ⟨by rw [hc _ g];exact a,b,c,d,e,f,g⟩
 refine ⟨hN,hV,hVN,h.st0,?_,?_,?_,?_⟩
 ·have h1:=Gj (p:=drawn) hi y;have h2:=h.dr;cases hdy:drawn y <;> cases hdx:drawn x <;> rw [hdy,hdx] at h1 hd <;> simp at h1 hd <;> omega
 ·have h1:=Gj (p:=Ba) hi y;have h2:=h.pu;unfold Aq at *
  cases hdy:Ba y <;> cases hdx:Ba x <;> rw [hdy,hdx] at h1 hp <;> simp at h1 hp <;> omega
 ·intro z hz';rcases mem_set hz' with rfl|⟨j,hj,hjz⟩
  ·exact conv _ hy
  ·exact conv _ (hz z j hj hjz)
 ·intro a b u v ha hb hne hu hv hmu hmv;rw [List.getElem?_set] at ha hb;split at ha
  ·split at ha
   ·simp at ha;subst ha;split at hb
    ·omega
    ·exact (hxy v b (by omega) hb hu hv hmu hmv).1
   ·cases ha
  ·split at hb
   ·split at hb
    ·simp at hb;subst hb;exact (hxy u a (by omega) ha hv hu hmv hmu).2
    ·cases hb
   ·exact h.two a b u v ha hb hne hu hv hmu hmv
theorem Y6 {l:List AT} {j:Nat} {z:AT} (h:l[j]? =some z):z∈l:=List.mem_of_getElem? h
theorem Xt.pair {N V K st:Int} {l:List AT} (h:Xt N V K st l) {i:Nat} {x:AT} (hi:l[i]? =some x) (hx:x.wr=true) (hm:0<=x.mark):∀ z j,j≠i->l[j]? =some z->z.wr=true->0<=z.mark->T1 x z/\T1 z x:=
 λ z j hj hjz hz hmz=>⟨h.two i j x z hi hjz (by omega) hx hz hm hmz,h.two j i z x hjz hi hj hz hx hmz hm⟩
section
variable {N V K st:Int} {l:List AT} {i:Nat} {x:AT}
theorem Xt.draw (h:Xt N V K st l) (hi:l[i]? =some x) (hx:x.wr=true) (hp:x.ph=0):Xt (N+1) V K st (l.set i {x with mark:=N,ph:=1}):=by
 have o:=h.one x (Y6 hi);obtain ⟨m0,n0,e0⟩:=o.w0 hx hp;have:=h.N0;have:=h.V0;have:=h.VN;refine h.turn hi (by omega) (by omega) (by omega) (by simp [drawn,hx,hp]) (by simp [Ba,n0]) (λ b _=>rfl) o.bg ?_ ?_ ?_
 ·exact ⟨λ hw=>by simp [hx] at hw,λ _ hq=>by simp at hq,λ _ _=>by simp;omega,λ _ hq=>by simp at hq,λ _ hq=>by simp at hq,o.en,o.bg⟩
 ·intro z j _ hjz;obtain ⟨a,b,c,d,e,f,g⟩:=h.one z (Y6 hjz);exact ⟨a,b,λ h1 h2=>by have:=c h1 h2;omega,λ h1 h2=>by have:=d h1 h2;omega,e,f,g⟩
 ·intro z j _ hjz _ hz _ hmz;have oz:=h.one z (Y6 hjz);have hlt:z.mark < N:=by
   rcases (show z.ph=0\/z.ph=1\/z.ph=2\/3<=z.ph by omega) with q|q|q|q
   ·have:=oz.w0 hz q;omega
   ·have:=oz.w1 hz q;omega
   ·have:=oz.w2 hz q;omega
   ·have:=oz.w3 hz q;omega
  exact ⟨⟨by simp;omega,by simp;omega,by simp;omega⟩,⟨by simp;omega,by simp [n0],by simp [e0]⟩⟩
theorem Xt.mine (h:Xt N V K st l) (hi:l[i]? =some x) (hx:x.wr=true) (hp:x.ph=1) (hm:x.mark=V):Xt N V K st (l.set i {x with ph:=2}):=by
 have o:=h.one x (Y6 hi);obtain ⟨m0,m1,n0,e0⟩:=o.w1 hx hp;have:=h.N0;have:=h.V0;have:=h.VN;have hK:0<=K:=by have:=h.pu;omega
 refine h.turn hi (by omega) (by omega) (by omega) (by simp [drawn,hx,hp]) (by simp [Ba,n0]) (λ b _=>rfl) o.bg ?_ (λ z j _ hjz=>h.one z (Y6 hjz)) ?_
 ·exact ⟨λ hw=>by simp [hx] at hw,λ _ hq=>by simp at hq,λ _ hq=>by simp at hq,λ _ _=>by simp;omega,λ _ hq=>by simp at hq,o.en,o.bg⟩
 ·intro z j hj hjz _ hz hm' hmz;obtain ⟨p,q⟩:=h.pair hi hx (by omega) z j hj hjz hz hmz;exact ⟨⟨p.ne,p.num,p.end'⟩,⟨q.ne,q.num,q.end'⟩⟩
theorem Xt.publish (h:Xt N V K st l) (hi:l[i]? =some x) (hx:x.wr=true) (hp:x.ph=2) (hn:x.number=0):Xt N V (K+1) st (l.set i {x with number:=K+1}):=by
 have o:=h.one x (Y6 hi);obtain ⟨m0,m1,_,_,e0⟩:=o.w2 hx hp;have:=h.N0;have:=h.V0;have:=h.VN;have hK:0<=K:=by have:=h.pu;omega
 refine h.turn hi (by omega) (by omega) (by omega) (by simp [drawn,hx]) (by simp [Ba,hn];omega) (λ b _=>by simp [J7,e0]) o.bg ?_ ?_ ?_
 ·exact ⟨λ hw=>by simp [hx] at hw,λ _ hq=>by simp [hp] at hq,λ _ hq=>by simp [hp] at hq,λ _ _=>by simp;omega,λ _ hq=>by simp [hp] at hq,o.en,o.bg⟩
 ·intro z j _ hjz;obtain ⟨a,b,c,d,e,f,g⟩:=h.one z (Y6 hjz);exact ⟨λ h1=>by have:=a h1;omega,b,c,λ h1 h2=>by have:=d h1 h2;omega,λ h1 h2=>by have:=e h1 h2;omega,f,g⟩
 ·intro z j hj hjz _ hz hm' hmz;obtain ⟨p,q⟩:=h.pair hi hx (by omega) z j hj hjz hz hmz;have oz:=h.one z (Y6 hjz);have hle:0 < z.number->z.mark < V/\z.number<=K:=by
   intro hz0;have hne:=q.ne;rcases (show z.ph=0\/z.ph=1\/z.ph=2\/3<=z.ph by omega) with r|r|r|r
   ·have:=oz.w0 hz r;omega
   ·have:=oz.w1 hz r;omega
   ·have:=oz.w2 hz r;omega
   ·have:=oz.w3 hz r;omega
  exact ⟨⟨p.ne,λ h1 _ h3=>by simp at h1;have:=hle h3;omega,p.end'⟩,⟨q.ne,λ h1 h2 _=>by simp;have:=hle h2;omega,q.end'⟩⟩
theorem Xt.pass (h:Xt N V K st l) (hi:l[i]? =some x) (hx:x.wr=true) (hp:x.ph=2) (hst:0 < st):Xt N (V+1) K st (l.set i {x with ended:=st,ph:=3}):=by
 have o:=h.one x (Y6 hi);obtain ⟨m0,m1,n0,n1,e0⟩:=o.w2 hx hp;have:=h.N0;have:=h.V0;have:=h.VN;refine h.turn hi (by omega) (by omega) (by omega) (by simp [drawn,hx,hp]) (by simp [Ba]) (λ b hb=>by simp [J7,e0];omega) o.bg ?_ ?_ ?_
 ·exact ⟨λ hw=>by simp [hx] at hw,λ _ hq=>by simp at hq,λ _ hq=>by simp at hq,λ _ hq=>by simp at hq,λ _ _=>by simp;omega,by simp;omega,o.bg⟩
 ·intro z j hj hjz;obtain ⟨a,b,c,d,e,f,g⟩:=h.one z (Y6 hjz);have hne:z.wr=true->0<=z.mark->z.mark≠V:=λ hz hmz=>by
   have:=(h.pair hi hx (by omega) z j hj hjz hz hmz).2.ne;omega
  exact ⟨a,b,λ h1 h2=>by have:=c h1 h2;have:=hne h1 (by omega);omega,λ h1 h2=>by have:=d h1 h2;have:=hne h1 (by omega);omega,λ h1 h2=>by have:=e h1 h2;omega,f,g⟩
 ·intro z j hj hjz _ hz hm' hmz;obtain ⟨p,q⟩:=h.pair hi hx (by omega) z j hj hjz hz hmz;have oz:=h.one z (Y6 hjz);refine ⟨⟨p.ne,p.num,λ h1 h2=>?_⟩,⟨q.ne,q.num,λ h1 h2=>oz.en.2⟩⟩;simp at h1;rcases (show z.ph=0\/z.ph=1\/z.ph=2\/3<=z.ph by omega) with r|r|r|r
  ·have:=oz.w0 hz r;omega
  ·have:=oz.w1 hz r;omega
  ·have:=oz.w2 hz r;omega
  ·have:=oz.w3 hz r;omega
end
section
variable {N V K st:Int} {l:List AT} {i:Nat} {x:AT}
theorem Xt.stamp (h:Xt N V K st l) (hi:l[i]? =some x) (hx:x.wr=false):Xt N V K st (l.set i {x with mark:=K}):=by
 have o:=h.one x (Y6 hi);obtain ⟨n0,_⟩:=o.rd hx;have hK:0<=K:=by have:=h.pu;omega
 refine h.turn hi h.N0 h.V0 h.VN (by simp [drawn,hx]) (by simp [Ba]) (λ b _=>rfl) o.bg ?_ (λ z j _ hjz=>h.one z (Y6 hjz)) (λ _ _ _ _ hw=>by simp [hx] at hw);have:=cnt_le l x.bgn;have:=h.pu;exact ⟨λ _=>⟨n0,.inr ⟨hK,Int.le_refl _,by show (W8 l x.bgn:Int)<=K;omega⟩⟩,λ hw=>by simp [hx] at hw,λ hw=>by simp [hx] at hw,λ hw=>by simp [hx] at hw,λ hw=>by simp [hx] at hw,o.en,o.bg⟩
theorem Xt.leave (h:Xt N V K st l) (hi:l[i]? =some x) (hx:x.wr=false) (p:Nat):Xt N V K st (l.set i {x with ended:=st,ph:=p}):=by
 have o:=h.one x (Y6 hi);have n0:=(o.rd hx).1;have h0:=h.st0;refine h.turn hi h.N0 h.V0 h.VN (by simp [drawn,hx]) (by simp [Ba]) (λ b _=>by simp [J7,n0]) o.bg ?_ (λ z j _ hjz=>h.one z (Y6 hjz)) (λ _ _ _ _ hw=>by simp [hx] at hw);exact ⟨o.rd,λ hw=>by simp [hx] at hw,λ hw=>by simp [hx] at hw,λ hw=>by simp [hx] at hw,λ hw=>by simp [hx] at hw,by simp;omega,o.bg⟩
end
end
section
def Xo (x:Gq):AT:=
 match x.g with
 |none=>⟨x.raw.tag==2,x.raw.mark,x.raw.number,x.raw.ended,x.raw.bgn,3⟩
 |some (.wr w)=>⟨true,if 1 < w.part then w.ticket else -1,w.number,0,x.raw.bgn,if w.part=1 then 0 else if w.part=2 then 1 else 2⟩
 |some (.rd r)=>⟨false,if r.part=1 then -1 else r.com.st,0,0,x.raw.bgn,0⟩
structure Qj (s:Zq):Prop where
 a:Xt (s.mem.wd 0) (s.mem.wd 1) (s.mem.wd 2) s.steps (s.txs.map Xo)
 w:∀ (i:Nat) (raw:Zv) (x:Z2),s.txs[i]? =some ⟨raw,some (.wr x)⟩->4<=x.part->x.part<=7->x.stamp=s.mem.wd 2
 lt:s.steps < 1000000000
variable {s:Zq} {t i:Nat} {raw:Zv} {g:Qw} {v:Nat} {N V K st:Int} {l:List AT} {x:Z2} {y:Yg}
theorem Xt.N_le (h:Xt N V K st l):N<=l.length/\K<=l.length:=by
 refine ⟨?_,?_⟩
 ·rw [<-h.dr];exact_mod_cast List.countP_le_length
 ·rw [<-h.pu];exact_mod_cast List.countP_le_length
theorem Qj.small (h:Qj s) (k:Ym s):(0<=s.mem.wd 0/\s.mem.wd 0 < 1000000000)/\(0<=s.mem.wd 1/\s.mem.wd 1 < 1000000000)/\(0<=s.mem.wd 2/\s.mem.wd 2 < 1000000000):=by
 obtain ⟨h1,h2⟩:=h.a.N_le;rw [List.length_map] at h1 h2;have:=k.st;have:=h.lt;have:=h.a.N0;have:=h.a.V0;have:=h.a.VN;have:=h.a.pu;refine ⟨⟨by omega,by omega⟩,⟨by omega,by omega⟩,⟨by omega,by omega⟩⟩
theorem N5 (hx:s.txs[i]? =some ⟨raw,some g⟩):(s.txs.map Xo)[i]? =some (Xo ⟨raw,some g⟩):=by
 rw [List.getElem?_map,hx];rfl
theorem N4 (hx:s.txs[i]? =some ⟨raw,some g⟩):Xo ⟨raw,some g⟩∈s.txs.map Xo:=List.mem_of_getElem? (N5 hx)
theorem Qj.ticket (h:Qj s) (hx:s.txs[i]? =some ⟨raw,some (.wr x)⟩) (hp:1 < x.part):0<=x.ticket/\x.ticket < s.mem.wd 0:=by
 have o:=h.a.one _ (N4 hx);have V0:=h.a.V0;have VN:=h.a.VN;have e1:(Xo ⟨raw,some (.wr x)⟩).mark=x.ticket:=if_pos hp
 by_cases h2:x.part=2
 ·have:=o.w1 rfl (by show (if x.part=1 then 0 else if x.part=2 then 1 else 2)=1;rw [if_neg (by omega),if_pos h2]);rw [e1] at this;omega
 ·have:=o.w2 rfl (by show (if x.part=1 then 0 else if x.part=2 then 1 else 2)=2;rw [if_neg (by omega),if_neg h2]);rw [e1] at this;omega
theorem Qj.turn (h:Qj s) (hx:s.txs[i]? =some ⟨raw,some (.wr x)⟩) (hp:3<=x.part):x.ticket=s.mem.wd 1:=by
 have o:=h.a.one _ (N4 hx);have e1:(Xo ⟨raw,some (.wr x)⟩).mark=x.ticket:=if_pos (by omega);have:=(o.w2 rfl (by show (if x.part=1 then 0 else if x.part=2 then 1 else 2)=2;rw [if_neg (by omega),if_neg (by omega)])).1;rw [e1] at this;exact this
theorem Qj.alone (h:Qj s) {j:Nat} {raw':Zv} {z:Z2} (hx:s.txs[i]? =some ⟨raw,some (.wr x)⟩) (hz:s.txs[j]? =some ⟨raw',some (.wr z)⟩) (hp:3<=x.part) (hq:3<=z.part):i=j:=by
 by_cases e:i=j
 ·exact e
 ·exfalso;have e1:(Xo ⟨raw,some (.wr x)⟩).mark=x.ticket:=if_pos (by omega);have e2:(Xo ⟨raw',some (.wr z)⟩).mark=z.ticket:=if_pos (by omega);have t1:=h.ticket hx (by omega);have t2:=h.ticket hz (by omega);have:=(h.a.two i j _ _ (N5 hx) (N5 hz) e rfl rfl (by rw [e1];omega) (by rw [e2];omega)).ne;rw [e1,e2,h.turn hx hp,h.turn hz hq] at this;exact this rfl
theorem Qj.tick (h:Qj s) (hs:s.steps+1 < 1000000000):Qj {s with steps:=s.steps+1}:=
 ⟨by have:=h.a.tick;exact_mod_cast this,h.w,hs⟩
theorem Qj.begin (h:Qj s) (t:Nat):Qj (s.begin t):=by
 have hx:(s.begin t).txs=s.txs++[⟨Xl t (s.th t).begun (s.call t).1 s.steps,some (s.newG t)⟩]:=rfl;refine ⟨?_,?_,h.lt⟩
 ·show Xt (s.mem.wd 0) (s.mem.wd 1) (s.mem.wd 2) s.steps ((s.begin t).txs.map Xo);rw [hx,List.map_append];have e:∃ b,Xo ⟨Xl t (s.th t).begun (s.call t).1 s.steps,some (s.newG t)⟩=⟨b,-1,0,0,s.steps,0⟩:=by
   unfold Zq.newG;split
   ·exact ⟨true,rfl⟩
   ·exact ⟨false,rfl⟩
  obtain ⟨b,e⟩:=e;rw [List.map_singleton,e];exact h.a.begin b
 ·intro i raw x hi h4 h7;rw [hx,List.getElem?_append] at hi;split at hi
  ·exact h.w i raw x hi h4 h7
  ·rw [List.getElem?_singleton] at hi;split at hi
   ·simp at hi;have hg:=hi.2;unfold Zq.newG at hg;split at hg
    ·simp at hg;rw [<-hg] at h4;simp [Uo] at h4
    ·simp at hg
   ·cases hi
theorem Qj.ready (h:Qj s) (t:Nat) (hs:s.steps+1 < 1000000000):Qj (s.ready t):=by
 unfold Zq.ready;split
 ·exact (h.tick hs).begin t
 ·exact h.tick hs
theorem Qj.put (h:Qj s) (ths:List Gn) (m:Zh) (z:Gq) (ha:Xt (m.wd 0) (m.wd 1) (m.wd 2) s.steps ((s.txs.map Xo).set i (Xo z)))
  (hz:∀ x,z.g=some (.wr x)->4<=x.part->x.part<=7->x.stamp=m.wd 2)
  (ho:m.wd 2=s.mem.wd 2\/∀ j raw' x',j≠i->s.txs[j]? =some ⟨raw',some (.wr x')⟩->4<=x'.part->x'.part<=7->False):Qj {s with mem:=m,ths:=ths,txs:=s.txs.set i z}:=by
 refine ⟨?_,?_,h.lt⟩
 ·show Xt (m.wd 0) (m.wd 1) (m.wd 2) s.steps ((s.txs.set i z).map Xo);rw [List.map_set];exact ha
 ·intro j raw' x' hj h4 h7;have hj:(s.txs.set i z)[j]? =some ⟨raw',some (.wr x')⟩:=hj;show x'.stamp=m.wd 2;rw [List.getElem?_set] at hj;split at hj
  ·split at hj
   ·have hj:=Zo_ hj;exact hz x' (by rw [hj]) h4 h7
   ·cases hj
  ·rename_i hne;rcases ho with ho|ho
   ·rw [ho];exact h.w j raw' x' hj h4 h7
   ·exact (ho j raw' x' (by omega) hj h4 h7).elim
theorem Gw {α:Type} {l:List α} {i:Nat} {a:α} (h:l[i]? =some a):l.set i a=l:=by
 apply List.ext_getElem?;intro j;rw [List.getElem?_set];split
 ·rename_i e;subst e;have:=(List.getElem?_eq_some_iff.1 h).1;rw [if_pos this,h]
 ·rfl
theorem Qj.fired (h:Qj s) (k:Ym s) (ht:t < s.ths.length) (hc:(s.th t).cur=some i) (hx:s.txs[i]? =some ⟨raw,some g⟩) (v:Nat) (hst:0 < s.steps):Qj (s.fired t i raw (g.step s.mem.opened v)):=by
 obtain ⟨u,hu,hcu,hru,hg⟩:=k.tx i raw g hx;obtain rfl:=k.one ht hu hc hcu;obtain ⟨⟨N0,N9⟩,⟨V0,V9⟩,⟨K0,K9⟩⟩:=h.small k;have at':=N5 hx;have put:∀ (g':Qw) (m:Zh),g'.over=false->g.step s.mem.opened v=(g',m)->Xt (m.wd 0) (m.wd 1) (m.wd 2) s.steps ((s.txs.map Xo).set i (Xo ⟨raw,some g'⟩))->
   (∀ x,g'=.wr x->4<=x.part->x.part<=7->x.stamp=m.wd 2)->(m.wd 2=s.mem.wd 2\/∀ j raw' x',j≠i->s.txs[j]? =some ⟨raw',some (.wr x')⟩->4<=x'.part->x'.part<=7->False)->Qj (s.fired t i raw (g.step s.mem.opened v)):=by
  intro g' m ho e ha hz hw;rw [e];unfold Zq.fired;rw [if_neg (by simp [ho])];exact h.put s.ths m ⟨raw,some g'⟩ ha (λ x hxx=>hz x (by simpa using hxx)) hw
 have done:∀ (g':Qw) (m:Zh),g'.over=true->g.step s.mem.opened v=(g',m)->Xt (m.wd 0) (m.wd 1) (m.wd 2) s.steps ((s.txs.map Xo).set i (Xo ⟨{raw.join g'.told with ended:=s.steps},none⟩))->
   m.wd 2=s.mem.wd 2->Qj (s.fired t i raw (g.step s.mem.opened v)):=by
  intro g' m ho e ha hw;rw [e];unfold Zq.fired;rw [if_pos ho];exact h.put _ m _ ha (λ x hxx=>by cases hxx) (.inl hw)
 have same:∀ (g':Qw) (m:Zh),g'.over=false->g.step s.mem.opened v=(g',m)->Xo ⟨raw,some g'⟩=Xo ⟨raw,some g⟩->(∀ j < 3,m.wd j=s.mem.wd j)->(∀ x,g'=.wr x->4<=x.part->x.part<=7->x.stamp=s.mem.wd 2)->Qj (s.fired t i raw (g.step s.mem.opened v)):=by
  intro g' m ho e ha hw hz;refine put g' m ho e ?_ (λ x q a b=>by rw [hw 2 (by omega)];exact hz x q a b) (.inl (hw 2 (by omega)));rw [ha,Gw at',hw 0 (by omega),hw 1 (by omega),hw 2 (by omega)];exact h.a
 have lw:∀ (m:Zh),m.ws=s.mem.ws->∀ j < 3,m.wd j=s.mem.wd j:=λ m e j _=>by unfold Zh.wd;rw [e]
 cases g with
 |wr x=>
  have hg:Jz s.c0 s.c1 x:=hg;have hh:x.part=1\/x.part=2\/x.part=3\/x.part=4\/x.part=5\/x.part=6\/x.part=7\/x.part=8:=by have:=hg.p1;have:=hg.p8;omega
  have es:∀ r,x.step s.mem.opened v=r->Qw.step (.wr x) s.mem.opened v=(.wr r.1,r.2):=λ r e=>by rw [<-e];rfl
  have acc:=λ n h0 h1=>Uv k.cfg k.len n h0 h1;have b0:=k.cfg.b0;rcases hh with hp|hp|hp|hp|hp|hp|hp|hp
  ·refine put _ _ ?_ (es _ (Rk k.cfg k.len hp)) ?_ ?_ ?_
   ·rfl
   ·have e0:(s.mem.opened.add 0 1).wd 0=s.mem.wd 0+1:=by
     rw [Zh.add_wd (by omega) (acc 0 (by omega) (by omega)),if_pos (by rfl)];exact Bt (by show 0<=s.mem.wd 0+1;omega) (by show s.mem.wd 0+1 < _;omega)
    have e1:∀ j,j≠0->(s.mem.opened.add 0 1).wd j=s.mem.wd j:=λ j hj=>by rw [Zh.add_wd (by omega) (acc 0 (by omega) (by omega)),if_neg (by simpa using Ne.symm hj)]
    show Xt ((s.mem.opened.add 0 1).wd 0) ((s.mem.opened.add 0 1).wd 1) ((s.mem.opened.add 0 1).wd 2) _ _;rw [e0,e1 1 (by omega),e1 2 (by omega)];have:=h.a.draw at' rfl (by show (if x.part=1 then 0 else if x.part=2 then 1 else 2)=0;rw [if_pos hp]);exact this
   ·intro z hz h4;obtain rfl:=Qw.wr.inj hz;exact absurd h4 (by simp)
   ·left;show (s.mem.opened.add 0 1).wd 2=s.mem.wd 2;rw [Zh.add_wd (by omega) (acc 0 (by omega) (by omega)),if_neg (by simp)]
  ·have hm:=lw (s.mem.opened.load 1) (by rw [Zh.load_ws];rfl);refine put _ _ ?_ (es _ (Ri k.cfg k.len hp)) ?_ ?_ (.inl (hm 2 (by omega)))
   ·show ((if s.mem.wd 1=x.ticket then (3:Int) else 2)==9)=false;split <;> rfl
   ·show Xt ((s.mem.opened.load 1).wd 0) ((s.mem.opened.load 1).wd 1) ((s.mem.opened.load 1).wd 2) _ _;rw [hm 0 (by omega),hm 1 (by omega),hm 2 (by omega)]
    by_cases hmine:s.mem.wd 1=x.ticket
    ·have:=h.a.mine at' rfl (by show (if x.part=1 then 0 else if x.part=2 then 1 else 2)=1;rw [if_neg (by omega),if_pos hp]) (by show (if 1 < x.part then x.ticket else -1)=_;rw [if_pos (by omega),hmine]);have e:Xo ⟨raw,some (.wr {x with part:=if s.mem.wd 1=x.ticket then 3 else 2})⟩={Xo ⟨raw,some (.wr x)⟩ with ph:=2}:=by
      rw [if_pos hmine];simp [Xo,hp]
     rw [e];exact this
    ·have e:Xo ⟨raw,some (.wr {x with part:=if s.mem.wd 1=x.ticket then 3 else 2})⟩=Xo ⟨raw,some (.wr x)⟩:=by
      rw [if_neg hmine];simp [Xo,hp]
     rw [e,Gw at'];exact h.a
   ·intro z hz h4;obtain rfl:=Qw.wr.inj hz;exfalso;replace h4:4<=(if s.mem.wd 1=x.ticket then (3:Int) else 2):=h4;split at h4 <;> omega
  ·have hm:=lw (s.mem.opened.load 2) (by rw [Zh.load_ws];rfl);refine same _ _ ?_ (es _ (Rh k.cfg k.len hp)) ?_ hm ?_
   ·rfl
   ·simp [Xo,hp]
   ·intro z hz _ _;obtain rfl:=Qw.wr.inj hz;rfl
  ·have hs4:=h.w i raw x hx (by omega) (by omega);rcases No k.cfg k.len hg hp v with ⟨_,e⟩|⟨_,e⟩|⟨_,_,e⟩|⟨_,_,e⟩|⟨_,_,e⟩
   ·refine same _ _ (by show (x.part==9)=false;rw [hp];rfl) (es _ e) rfl (lw _ rfl) ?_;intro z hz _ _;obtain rfl:=Qw.wr.inj hz;exact hs4
   ·refine same _ _ (by show (x.part==9)=false;rw [hp];rfl) (es _ e) rfl (lw _ (Zh.cellM_ws _ _ _ _)) ?_;intro z hz _ _;obtain rfl:=Qw.wr.inj hz;exact hs4
   ·refine same _ _ (by show (x.part==9)=false;rw [hp];rfl) (es _ e) rfl (lw _ (Zh.cellM_ws _ _ _ _)) ?_;intro z hz _ _;obtain rfl:=Qw.wr.inj hz;exact hs4
   ·refine same _ _ rfl (es _ e) (by simp [Xo,hp]) (lw _ rfl) ?_;intro z hz _ _;obtain rfl:=Qw.wr.inj hz;exact hs4
   ·refine same _ _ rfl (es _ e) (by simp [Xo,hp]) (lw _ rfl) ?_;intro z hz _ h7;obtain rfl:=Qw.wr.inj hz;exact absurd h7 (by simp)
  ·have hs4:=h.w i raw x hx (by omega) (by omega);obtain ⟨nx,po,_,_,_,hws,hr⟩:=Nn (v:=v) k.cfg k.len hg hp;have hr2:x.step s.mem.opened v=((x.step s.mem.opened v).1,(x.step s.mem.opened v).2):=rfl;rcases hr with ⟨_,e⟩|⟨_,_,e⟩|⟨_,_,e⟩
   ·rw [e] at hr2;refine same _ _ (by show (x.part==9)=false;rw [hp];rfl) (es _ hr2) rfl (lw _ hws) ?_;intro z hz _ _;obtain rfl:=Qw.wr.inj hz;exact hs4
   ·rw [e] at hr2;refine same _ _ (by show (x.part==9)=false;rw [hp];rfl) (es _ hr2) rfl (lw _ hws) ?_;intro z hz _ _;obtain rfl:=Qw.wr.inj hz;exact hs4
   ·rw [e] at hr2;refine same _ _ (by show ((if 0 < x.was.length then (6:Int) else 7)==9)=false;split <;> rfl) (es _ hr2) ?_ (lw _ hws) ?_
    ·by_cases hw:0 < x.was.length <;> simp [Xo,hp,hw]
    ·intro z hz _ _;obtain rfl:=Qw.wr.inj hz;exact hs4
  ·have hs4:=h.w i raw x hx (by omega) (by omega);obtain ⟨n,_,_,_,hws,hr⟩:=Nm (v:=v) k.cfg k.len hg hp;have hr2:x.step s.mem.opened v=((x.step s.mem.opened v).1,(x.step s.mem.opened v).2):=rfl;have hlow:∀ j < 3,(x.step s.mem.opened v).2.wd j=s.mem.wd j:=λ j hj=>by
    rw [hws];exact Zh.cellS_low _ _ (by unfold Z4;omega) (by unfold Yv;split <;> (try split) <;> omega)
   rcases hr with ⟨_,e⟩|⟨_,_,e⟩|⟨_,_,e⟩
   ·rw [e] at hr2;refine same _ _ (by show (x.part==9)=false;rw [hp];rfl) (es _ hr2) rfl hlow ?_;intro z hz _ _;obtain rfl:=Qw.wr.inj hz;exact hs4
   ·rw [e] at hr2;refine same _ _ (by show (x.part==9)=false;rw [hp];rfl) (es _ hr2) rfl hlow ?_;intro z hz _ _;obtain rfl:=Qw.wr.inj hz;exact hs4
   ·rw [e] at hr2;refine same _ _ rfl (es _ hr2) (by simp [Xo,hp]) hlow ?_;intro z hz _ _;obtain rfl:=Qw.wr.inj hz;exact hs4
  ·have hs4:=h.w i raw x hx (by omega) (by omega);have eu:u64 (x.stamp+1)=s.mem.wd 2+1:=by rw [hs4];exact Bt (by omega) (by omega)
   have ew:wrap64 (u64 (x.stamp+1))=s.mem.wd 2+1:=by rw [eu];exact Nk (by omega) (by omega)
   have hset:∀ j:Nat,(s.mem.opened.store 2 (u64 (x.stamp+1))).wd j=if 2=j then s.mem.wd 2+1 else s.mem.wd j:=λ j=>by
    rw [Zh.store_wd (by omega) (acc 2 (by omega) (by omega)),eu];rfl
   refine put _ _ ?_ (es _ (Rg hp)) ?_ ?_ ?_
   ·rfl
   ·show Xt ((s.mem.opened.store 2 (u64 (x.stamp+1))).wd 0) ((s.mem.opened.store 2 (u64 (x.stamp+1))).wd 1) ((s.mem.opened.store 2 (u64 (x.stamp+1))).wd 2) _ _;rw [hset,hset,hset,if_neg (by omega),if_neg (by omega),if_pos rfl];have:=h.a.publish at' rfl (by show (if x.part=1 then 0 else if x.part=2 then 1 else 2)=2;rw [if_neg (by omega),if_neg (by omega)]) (hg.num (by omega));have e:Xo ⟨raw,some (.wr {x with number:=wrap64 (u64 (x.stamp+1)),part:=8})⟩={Xo ⟨raw,some (.wr x)⟩ with number:=s.mem.wd 2+1}:=by
     simp [Xo,hp,ew]
    rw [e];exact this
   ·intro z hz _ h7;obtain rfl:=Qw.wr.inj hz;exact absurd h7 (by simp)
   ·right;intro j raw' x' hj hx' h4 h7;exact hj (h.alone hx' hx (by omega) (by omega))
  ·have tk:=h.ticket hx (by omega);have tv:=h.turn hx (by omega);have eu:u64 (x.ticket+1)=s.mem.wd 1+1:=by rw [tv];exact Bt (by omega) (by omega)
   have hset:∀ j:Nat,(s.mem.opened.store 1 (u64 (x.ticket+1))).wd j=if 1=j then s.mem.wd 1+1 else s.mem.wd j:=λ j=>by
    rw [Zh.store_wd (by omega) (acc 1 (by omega) (by omega)),eu];rfl
   refine done _ _ ?_ (es _ (Rf hp)) ?_ ?_
   ·rfl
   ·show Xt ((s.mem.opened.store 1 (u64 (x.ticket+1))).wd 0) ((s.mem.opened.store 1 (u64 (x.ticket+1))).wd 1) ((s.mem.opened.store 1 (u64 (x.ticket+1))).wd 2) _ _;rw [hset,hset,hset,if_neg (by omega),if_pos rfl,if_neg (by omega)];have:=h.a.pass at' rfl (by show (if x.part=1 then 0 else if x.part=2 then 1 else 2)=2;rw [if_neg (by omega),if_neg (by omega)]) (by omega);have ewt:wrap64 x.ticket=x.ticket:=Nk (by omega) (by omega);have e:Xo ⟨{raw.join (Qw.told (.wr {x with part:=9})) with ended:=s.steps},none⟩={Xo ⟨raw,some (.wr x)⟩ with ended:=s.steps,ph:=3}:=by
     simp [Xo,hp,Zv.join,Qw.told,Z2.told,hg.tag,ewt]
    rw [e];exact this
   ·show (s.mem.opened.store 1 (u64 (x.ticket+1))).wd 2=s.mem.wd 2;rw [hset,if_neg (by omega)]
 |rd y=>
  have hg:Ks s.c0 s.c1 t y:=hg;have hh:y.part=1\/y.part=2\/y.part=3:=by have:=hg.p1;have:=hg.p3;omega
  have es:∀ r,y.step s.mem.opened v=r->Qw.step (.rd y) s.mem.opened v=(.rd r.1,r.2):=λ r e=>by rw [<-e];rfl
  have hr2:y.step s.mem.opened v=((y.step s.mem.opened v).1,(y.step s.mem.opened v).2):=rfl;rcases hh with hp|hp|hp
  ·rcases Pe (v:=v) k.cfg k.len hg hp with ⟨_,e,hws⟩|⟨_,e,hws⟩|⟨_,e,hws⟩
   ·rw [e] at hr2;refine same _ _ rfl (es _ hr2) (by simp [Xo,hp]) (lw _ hws) (λ z hz=>by cases hz)
   ·rw [e,hws] at hr2;refine same _ _ rfl (es _ hr2) (by simp [Xo,hp]) (λ j hj=>?_) (λ z hz=>by cases hz);show (s.mem.opened.store _ _).wd j=_;rw [Zh.store_out _ (by omega)];rfl
   ·rw [e] at hr2;have hm:=lw _ hws;refine put _ _ rfl (es _ hr2) ?_ (λ z hz=>by cases hz) (.inl (hm 2 (by omega)));show Xt ((y.step s.mem.opened v).2.wd 0) ((y.step s.mem.opened v).2.wd 1) ((y.step s.mem.opened v).2.wd 2) _ _;rw [hm 0 (by omega),hm 1 (by omega),hm 2 (by omega)];have:=h.a.stamp at' rfl;have e:Xo ⟨raw,some (.rd {y with com:={y.com with n:=3,st:=s.mem.wd 2},part:=2})⟩={Xo ⟨raw,some (.rd y)⟩ with mark:=s.mem.wd 2}:=by simp [Xo]
    rw [e];exact this
  ·obtain ⟨hws,hr⟩:=Nu k.cfg k.len hg hp v;have hgo:∀ (z:Yg) (r:Y1),∃ m rd,(z.goOn r s.mem.opened).1={z with m:=m,read:=rd}:=by
    intro z r;unfold Yg.goOn;simp only;split
    ·exact ⟨_,_,rfl⟩
    ·exact ⟨z.m,_,rfl⟩
   rcases hr with ⟨r,hr,e⟩|⟨hr,h1,e,o⟩|⟨hr,h1,e⟩|⟨hr,h1,e⟩
   ·obtain ⟨m,rd,e2⟩:=hgo y r;rw [e,e2] at hr2;exact same _ _ (by show (y.part==4)=false;rw [hp];rfl) (es _ hr2) (by simp [Xo]) (lw _ hws) (λ z hz=>by cases hz)
   ·obtain ⟨m,rd,e2⟩:=hgo {y with m:=(y.m.step v).1} (Qb s.c0 s.c1 (y.m.step v).2.cell y.com.st);rw [e,e2] at hr2;exact same _ _ (by show (y.part==4)=false;rw [hp];rfl) (es _ hr2) (by simp [Xo]) (lw _ hws) (λ z hz=>by cases hz)
   ·rw [e] at hr2;exact same _ _ rfl (es _ hr2) (by simp [Xo,hp]) (lw _ hws) (λ z hz=>by cases hz)
   ·rw [e] at hr2;exact same _ _ (by show (y.part==4)=false;rw [hp];rfl) (es _ hr2) (by simp [Xo]) (lw _ hws) (λ z hz=>by cases hz)
  ·have hw:∀ j < 3,(s.mem.opened.store (3+(t:Int)) 0).wd j=s.mem.wd j:=λ j hj=>by rw [Zh.store_out _ (by omega)];rfl
   refine done _ _ rfl (es _ (Ru k.cfg hg hp)) ?_ (hw 2 (by omega));show Xt ((s.mem.opened.store (3+(t:Int)) 0).wd 0) ((s.mem.opened.store (3+(t:Int)) 0).wd 1) ((s.mem.opened.store (3+(t:Int)) 0).wd 2) _ _;rw [hw 0 (by omega),hw 1 (by omega),hw 2 (by omega)];have:=h.a.leave at' rfl 3;have o:=h.a.one _ (N4 hx);have hst:=(o.rd rfl).2;have em:(Xo ⟨raw,some (.rd y)⟩).mark=y.com.st:=if_neg (by omega);rw [em] at hst;have hb:0<=y.com.st\/y.com.st=-1:=by omega
   have ewt:wrap64 y.com.st=y.com.st:=Nk (by omega) (by omega);have e:Xo ⟨{raw.join (Qw.told (.rd {y with part:=4})) with ended:=s.steps},none⟩={Xo ⟨raw,some (.rd y)⟩ with ended:=s.steps,ph:=3}:=by
    simp [Xo,hp,Zv.join,Qw.told,Yg.told,hg.tag,ewt]
   rw [e];exact this
theorem Qj.step (h:Qj s) (k:Ym s) (ht:t < s.ths.length) (hs:s.steps+1 < 1000000000) (v:Nat):Qj (s.step t v):=by
 unfold Zq.step;cases hf:(s.th t).fin with
 |true=>rw [if_pos rfl];exact h
 |false=>
  rw [if_neg (by simp)];obtain ⟨hr,hl,i,hc⟩:=k.ready ht hf;have ht':t < (s.ready t).ths.length:=by rw [hl];exact ht
  obtain ⟨raw,g,hx,_⟩:=hr.cur t i ht' hc;rw [Bh hc hx];refine (h.ready t hs).fired hr ht' hc hx v ?_;unfold Zq.ready;split
  ·show 0 < s.steps+1;omega
  ·show 0 < s.steps+1;omega
end
section
variable {w0 w w' w1:World} {lab lab' lab1:Nat->Nat} {P P':EP} {s s':Zq} {t i:Nat} {S J:List Nat} {raw:Zv} {g:Qw} {r:Qw×Zh}
theorem Uq.refl (h:Yu w0 w lab P s):Uq w0 w lab P s w:=⟨lab,P,h,Ha.refl P,Kp.refl w lab⟩
theorem Uq.quiet (h:Uq w0 w lab P s w1) (m:Ze [] w1 w'):Uq w0 w lab P s w':=by
 obtain ⟨l1,P1,e1,q1,f1⟩:=h;exact ⟨l1,P1,e1.quiet m Z1,q1,f1.trans (Kp.quiet m Z1)⟩
theorem Yu.ticked (h:Yu w0 w lab P s) (u:Int) (hu:u=((s.steps+1:Nat):Int)):Yu w0 (w.setCell ⟨P.x,15,none⟩ (.int .i64 u)) lab P {s with steps:=s.steps+1}/\Kp w lab (w.setCell ⟨P.x,15,none⟩ (.int .i64 u)) lab:=by
 have m:Ze [P.x] w (w.setCell ⟨P.x,15,none⟩ (.int .i64 u)):=(Zr_ _ _).setCell _ _ (.inl (by simp));have hs:Kb [P.x] w lab [1]:=by intro j hj _;simp at hj;subst hj;simp [h.lx]
 have KK:=h.keep m hs (by simp) (by simp) (by simp) Z1;refine ⟨{hx:=?_,mem:=KK.mem (by simp),rnd:=KK.rnd (by simp),prog:=KK.prog,trow:=KK.trow,thd:=λ u hu=>KK.thd u hu (by simp;omega),lt:=KK.lt,call:=KK.call,cur:=h.cur,go:=λ u hu=>KK.go u hu (by simp;omega),deeds:=KK.deeds (by simp),n1:=h.n1,n8:=h.n8,nt:=h.nt,lx:=KK.lx,la:=KK.la,lb:=KK.lb,lr:=KK.lr,old:=KK.old,fr:=KK.fr},Kp.of m hs (by simp) Z1⟩;rw [Zd _ h.hx,hu];rfl
theorem Yu.rounds (h:Yu w0 w lab P s) (R:Xx w' P.r s.c1) (m:Ze [P.r] w w'):Yu w0 w' lab P s/\Kp w lab w' lab:=by
 have hs:Kb [P.r] w lab [3]:=by intro j hj _;simp at hj;subst hj;simp [h.lr]
 have KK:=h.keep m hs (by simp) (by simp) (by simp) Z1;exact ⟨{hx:=KK.hx (by simp),mem:=KK.mem (by simp),rnd:=R,prog:=KK.prog,trow:=KK.trow,thd:=λ u hu=>KK.thd u hu (by simp;omega),lt:=KK.lt,call:=KK.call,cur:=h.cur,go:=λ u hu=>KK.go u hu (by simp;omega),deeds:=KK.deeds (by simp),n1:=h.n1,n8:=h.n8,nt:=h.nt,lx:=KK.lx,la:=KK.la,lb:=KK.lb,lr:=KK.lr,old:=KK.old,fr:=KK.fr},Kp.of m hs (by simp) Z1⟩
def Zq.moved (s:Zq) (i:Nat) (raw:Zv) (r:Qw×Zh):Zq:={s with mem:=r.2,txs:=s.txs.set i ⟨raw,some r.1⟩}
theorem goer_set (k:Ym s) {u:Nat} (hu:u < s.ths.length) (ht:t < s.ths.length) (hc:(s.th t).cur=some i) (hne:u≠t) (x:Gq) (m:Zh) (ths:List Gn) (n:Nat) (hth:(ths.getD u Bd).cur=(s.th u).cur):Zq.goer {s with mem:=m,ths:=ths,txs:=s.txs.set i x,steps:=n} u=s.goer u:=by
 unfold Zq.goer;show (match (ths.getD u Bd).cur with|none=>none|some j=>match (s.txs.set i x)[j]? with|some x=>x.g|none=>none)=_;rw [hth];cases hcu:(s.th u).cur with
 |none=>rfl
 |some j=>
  have:i≠j:=by
   rintro rfl;exact hne (k.one hu ht hcu hc)
  simp only;rw [List.getElem?_set_ne this];rfl
theorem Yu.moved (h:Yu w0 w lab P s) (k:Ym s) (ht:t < s.ths.length) (hc:(s.th t).cur=some i) (hx:s.txs[i]? =some ⟨raw,some g⟩) {B B':List Nat} (hB:∀ n∈B,lab n=30+t)
  (M:Zi 137 w' P.a P.b r.2) (F:W7 w (P.a :: P.b :: B) w' (P.a :: P.b :: B')) (hG:∀ lab',(∀ n∈B',n≠P.a->n≠P.b->lab' n=30+t)->Di w' lab' (30+t) (P.gv t) (some r.1)):
  ∃ lab',Yu w0 w' lab' P (s.moved i raw r)/\Kp w lab w' lab':=by
 have ha:Um w lab (Fu lab w.heap.size (30+t)):=Uw _;have h8:=h.n8;have hs:Kb (P.a :: P.b :: B) w lab [2,30+t]:=by
  intro j hj _;simp only [List.mem_cons] at hj;rcases hj with rfl|rfl|hj
  ·simp [h.la]
  ·simp [h.lb]
  ·simp [hB j hj]
 have h0:0∉[2,30+t]:=by intro q;simp at q;omega
 have KK:=h.keep F.md hs h0 (by intro q;simp at q;omega) (by intro q;simp at q;omega) ha;have hraw:s.txs.map (·.raw)=(s.txs.set i ⟨raw,some r.1⟩).map (·.raw):=by
  rw [List.map_set];refine (Gw ?_).symm;rw [List.getElem?_map,hx];rfl
 refine ⟨Fu lab w.heap.size (30+t),{hx:=KK.hx (by intro q;simp at q;omega),mem:=M,rnd:=KK.rnd (by intro q;simp at q;omega),prog:=KK.prog,trow:=KK.trow,thd:=λ u hu=>KK.thd u hu (by intro q;have hu:u < s.ths.length:=hu;simp at q;omega),lt:=KK.lt,call:=KK.call,cur:=h.cur,go:=λ u hu=>?_,deeds:=?_,n1:=h.n1,n8:=h.n8,nt:=h.nt,lx:=KK.lx,la:=KK.la,lb:=KK.lb,lr:=KK.lr,old:=KK.old,fr:=KK.fr},Kp.of F.md hs h0 ha⟩
 ·have hu:u < s.ths.length:=hu
  by_cases e:u=t
  ·subst e;have e2:(s.moved i raw r).goer u=some r.1:=by
    unfold Zq.goer;show (match (s.th u).cur with|none=>none|some j=>match (s.txs.set i ⟨raw,some r.1⟩)[j]? with|some x=>x.g|none=>none)=_;rw [hc];have hi:=(List.getElem?_eq_some_iff.1 hx).1;simp [hi]
   rw [e2];refine hG _ (λ n hn ha' hb'=>?_);rcases F.gr n (by simp [hn]) with hm|hm
   ·simp only [List.mem_cons] at hm;rcases hm with rfl|rfl|hm
    ·exact absurd rfl ha'
    ·exact absurd rfl hb'
    ·by_cases hl:n < w.heap.size
     ·rw [ha n hl];exact hB n hm
     ·exact Ke (by omega)
   ·exact Ke hm
  ·have e2:(s.moved i raw r).goer u=s.goer u:=goer_set k hu ht hc e _ _ s.ths s.steps rfl;rw [e2];exact KK.go u hu (by intro q;simp at q;omega)
 ·show Jr w' _ 5 6 P.vd ((s.txs.set i ⟨raw,some r.1⟩).map (·.raw)) P.es;rw [<-hraw];exact KK.deeds (by intro q;simp at q;omega)
def Qn (w0 w:World) (lab:Nat->Nat) (P:EP) (s:Zq) (i:Nat) (raw:Zv) (g:Qw) (b:Bool) (w':World):Prop:=
 ∃ v,b=(g.step s.mem.opened v).1.over/\Uq w0 w lab P (s.moved i raw (g.step s.mem.opened v)) w'
theorem Qn.quiet {b:Bool} (h:Qn w0 w lab P s i raw g b w1) (m:Ze [] w1 w'):Qn w0 w lab P s i raw g b w':=by
 obtain ⟨v,h1,h2⟩:=h;exact ⟨v,h1,h2.quiet m⟩
theorem cf229 (args:Array Value) (w:World):(callFunc 229 args).run Tryz.prog w=.ok (.enter 229 args) w:=by kernel_rfl
theorem cf234 (args:Array Value) (w:World):(callFunc 234 args).run Tryz.prog w=.ok (.enter 234 args) w:=by kernel_rfl
theorem cf227 (args:Array Value) (w:World):(callFunc 227 args).run Tryz.prog w=.ok (.enter 227 args) w:=by kernel_rfl
theorem cf232 (args:Array Value) (w:World):(callFunc 232 args).run Tryz.prog w=.ok (.enter 232 args) w:=by kernel_rfl
theorem Yu.stepC (h:Yu w0 w lab P s) (k:Ym s) (ht:t < s.ths.length) (hc:(s.th t).cur=some i) (hx:s.txs[i]? =some ⟨raw,some g⟩):
  ∃ ti qk f D,P.gv t=.iface ti (.pointer (some ⟨qk,0,none⟩))/\(∀ v w,(method 393 ti v "Step").run Tryz.prog w=.ok (f,v) w)/\(∀ args w,(callFunc f args).run Tryz.prog w=.ok (.enter f args) w)/\(∀ n∈D,lab n=2\/lab n=30+t)/\
   ∀ wx,Ze [] w wx->Calls Tryz.prog f #[.pointer (some ⟨qk,0,none⟩),.pointer (some ⟨P.a,0,none⟩)] wx (λ e w'=>∃ b,e=.returned (.tuple #[.bool b,.int .i64 0])/\Qn w0 w lab P s i raw g b w'/\Ze D wx w'):=by
 have hgo:s.goer t=some g:=by unfold Zq.goer;rw [hc];simp [hx]
 obtain ⟨u,hu,hcu,_,hG⟩:=k.tx i raw g hx;obtain rfl:=k.one ht hu hc hcu;have G:=h.go t ht;rw [hgo] at G;have hlen:=k.len;cases g with
 |wr y=>
  have hG:Jz s.c0 s.c1 y:=hG;obtain ⟨q,e,hq,hnx,hb⟩:=G;refine ⟨140,q.k,229,P.a :: P.b :: q.blocks,e,Le,cf229,?_,λ wx m=>?_⟩
  ·intro n hn;simp only [List.mem_cons] at hn;rcases hn with rfl|rfl|hn
   ·exact .inl h.la
   ·exact .inl h.lb
   ·exact .inr (hb n hn)
  ·have hW:=h.quiet m Z1;refine (Sn (hq.mod m (by simp)) hW.mem (hnx hG.p8) hG.ok (by rw [hG.k0,hG.k1];omega)).mono ?_;rintro e w' ⟨v,rfl,n,⟨q',h1,h2,h3,h4,h5,h6⟩,h7⟩;obtain ⟨lab',hE,hF⟩:=hW.moved (r:=(Qw.step (.wr y) s.mem.opened v)) k ht hc hx (B:=q.blocks) (B':=q'.blocks) hb h2 h3 (λ lab' hl=>⟨q',by rw [h4];exact e,h1,λ hp=>h6.trans (h7 hp),λ n hn=>hl n hn (λ q=>h1.a_nin h2 (q ▸ hn)) (λ q=>h1.b_nin h2 (q ▸ hn))⟩);exact ⟨_,rfl,⟨v,rfl,lab',P,hE,Ha.refl P,(Kp.quiet m Z1).trans hF⟩,h3.md⟩
 |rd y=>
  have hG:Ks s.c0 s.c1 t y:=hG;obtain ⟨q,e,hq,hb⟩:=G;refine ⟨142,q.k,234,P.a :: P.b :: q.blocks,e,Ld,cf234,?_,λ wx m=>?_⟩
  ·intro n hn;simp only [List.mem_cons] at hn;rcases hn with rfl|rfl|hn
   ·exact .inl h.la
   ·exact .inl h.lb
   ·exact .inr (hb n hn)
  ·have hW:=h.quiet m Z1;refine (Ah (hq.mod m (by simp)) hW.mem hG.ok (by rw [hG.k0,hG.k1];omega)).mono ?_;rintro e w' ⟨v,rfl,q',h1,h2,h3,h4,h5,h6⟩;obtain ⟨lab',hE,hF⟩:=hW.moved (r:=(Qw.step (.rd y) s.mem.opened v)) k ht hc hx (B:=q.blocks) (B':=q'.blocks) hb h2 h3 (λ lab' hl=>⟨q',by rw [h4];exact e,h1,λ n hn=>hl n hn (λ q=>h1.a_nin h2 (q ▸ hn)) (λ q=>h1.b_nin h2 (q ▸ hn))⟩);exact ⟨_,rfl,⟨v,rfl,lab',P,hE,Ha.refl P,(Kp.quiet m Z1).trans hF⟩,h3.md⟩
theorem J9.arr {d:Zv} {e:Ending} (h:J9 w d e w') (h1:d.th=0) (h2:d.no=0) (h3:d.prog=0) (h4:d.bgn=0) (h5:d.ended=0):∃ y:DX,e=.returned (.agg (Z5 d y).toArray)/\Xm w.heap.size d.args y.va w'/\Qf w.heap.size d.reads y.vr w'/\Qf w.heap.size d.writes y.vw w'/\Xm w.heap.size d.out y.vo w'/\Ze [] w w':=by
 obtain ⟨st,va,vr,vw,vo,rfl,a1,a2,a3,a4,m⟩:=h;refine ⟨⟨va,vr,vw,vo,st,0,0,0⟩,?_,a1,a2,a3,a4,m⟩;unfold Z5 Qe;rw [h1,h2,h3,h4,h5]
theorem S4 (g:Qw):g.told.th=0/\g.told.no=0/\g.told.prog=0/\g.told.bgn=0/\g.told.ended=0:=by
 cases g with
 |wr x=>exact ⟨rfl,rfl,rfl,rfl,rfl⟩
 |rd y=>exact ⟨rfl,rfl,rfl,rfl,rfl⟩
def L9 (w:World) (d:Zv) (e:Ending) (w':World):Prop:=∃ y:DX,e=.returned (.agg (Z5 d y).toArray)/\Xm w.heap.size d.args y.va w'/\Qf w.heap.size d.reads y.vr w'/\Qf w.heap.size d.writes y.vw w'/\Xm w.heap.size d.out y.vo w'/\Ze [] w w'
theorem Yu.deedC (h:Yu w0 w lab P s) (ht:t < s.ths.length) (hgo:s.goer t=some g) (hT:T6 g):
  ∃ ti qk f,P.gv t=.iface ti (.pointer (some ⟨qk,0,none⟩))/\(∀ v w,(method 393 ti v "Deed").run Tryz.prog w=.ok (f,v) w)/\(∀ args w,(callFunc f args).run Tryz.prog w=.ok (.enter f args) w)/\∀ wx,Ze [] w wx->Calls Tryz.prog f #[.pointer (some ⟨qk,0,none⟩)] wx (L9 wx g.told):=by
 have G:=h.go t ht;rw [hgo] at G;obtain ⟨z1,z2,z3,z4,z5⟩:=S4 g;cases g with
 |wr y=>
  obtain ⟨q,e,hq,_,_⟩:=G;obtain ⟨t1,t2⟩:Yl y.m/\y.args.length<=8:=hT;refine ⟨140,q.k,227,e,Pk,cf227,λ wx m=>?_⟩;exact (Re (hq.mod m (by simp)) t1 (by omega)).mono (λ e w' h=>J9.arr h z1 z2 z3 z4 z5)
 |rd y=>
  obtain ⟨q,e,hq,_⟩:=G;obtain ⟨t1,t2⟩:Yl y.m/\y.args.length<=8:=hT;refine ⟨142,q.k,232,e,Lf,cf232,λ wx m=>?_⟩;exact (rdeed_c (hq.mod m (by simp)) t1 (by omega)).mono (λ e w' h=>J9.arr h z1 z2 z3 z4 z5)
theorem R0 {α:Type} {l:List α} {i:Nat} {a d:α} (h:i < l.length):(l.set i a).getD i d=a:=by
 simp [List.getD_eq_getElem?_getD,h]
theorem Rz {α:Type} {l:List α} {i j:Nat} {a d:α} (h:i≠j):(l.set i a).getD j d=l.getD j d:=by
 simp [List.getD_eq_getElem?_getD,h]
theorem Yu.laid (h:Yu w0 w lab P s) (hx:s.txs[i]? =some ⟨raw,some g⟩) (d:Zv) (x:DX) {dg n0:Nat} (hvd:P.vd.ownBlock=some dg) (m:Ze [dg] w w')
  (hrow:w'.ownsRow 0 50 19 P.vd s.txs.length (Qq ((s.txs.map (·.raw)).set i d) (P.es.set i x)))
  (h1:Xm n0 d.args x.va w') (h2:Qf n0 d.reads x.vr w') (h3:Qf n0 d.writes x.vw w') (h4:Xm n0 d.out x.vo w') (hn0:w.heap.size<=n0):
  ∃ lab',Yu w0 w' lab' {P with es:=P.es.set i x} {s with txs:=s.txs.set i ⟨d,some g⟩}/\Kp w lab w' lab':=by
 have ha:Um w lab (Fu lab w.heap.size 6):=Uw _;have hi:=(List.getElem?_eq_some_iff.1 hx).1;have hdo:=h.deeds.row.own _ hvd;have hs:Kb [dg] w lab [5]:=by intro j hj _;simp at hj;subst hj;simp [hdo]
 have KK:=h.keep m hs (by simp) (by simp) (by simp) ha;have hle:=h.deeds.len;have hdl:(s.txs.map (·.raw)).length=s.txs.length:=by simp
 have new:∀ {ty:TypeId} {z n:Nat} {xs:List Value} {v:Value},Z8 n0 ty z n xs v w'->Vw w' (Fu lab w.heap.size 6) 6 ty z xs n v:=λ hr=>⟨hr.1,λ g hg=>Ke (Nat.le_trans hn0 (hr.2 g hg))⟩;refine ⟨Fu lab w.heap.size 6,{hx:=KK.hx (by simp),mem:=KK.mem (by simp),rnd:=KK.rnd (by simp),prog:=KK.prog,trow:=KK.trow,thd:=λ u hu=>KK.thd u hu (by simp;omega),lt:=KK.lt,call:=KK.call,cur:=h.cur,go:=λ u hu=>?_,deeds:=?_,n1:=h.n1,n8:=h.n8,nt:=h.nt,lx:=KK.lx,la:=KK.la,lb:=KK.lb,lr:=KK.lr,old:=KK.old,fr:=KK.fr},Kp.of m hs (by simp) ha⟩
 ·have e2:Zq.goer {s with txs:=s.txs.set i ⟨d,some g⟩} u=s.goer u:=by
   unfold Zq.goer;show (match (s.th u).cur with|none=>none|some j=>match (s.txs.set i ⟨d,some g⟩)[j]? with|some x=>x.g|none=>none)=_;cases hcu:(s.th u).cur with
   |none=>rfl
   |some j=>
    show (match (s.txs.set i ⟨d,some g⟩)[j]? with|some x=>x.g|none=>none)=(match s.txs[j]? with|some x=>x.g|none=>none)
    by_cases e:i=j
    ·subst e;rw [List.getElem?_set_self hi,hx]
    ·rw [List.getElem?_set_ne e]
  rw [e2];exact KK.go u hu (by simp;omega)
 ·show Jr w' _ 5 6 P.vd ((s.txs.set i ⟨d,some g⟩).map (·.raw)) (P.es.set i x);rw [List.map_set];refine ⟨by simp [hle],⟨?_,λ g hg=>?_⟩,λ j hj=>?_⟩
  ·rw [List.length_set,List.length_map];exact hrow
  ·rw [hvd] at hg;obtain rfl:=Zo_ hg;have hl:=Ys h.deeds.row.row hvd;rw [ha _ hl];exact hdo
  ·have hj':j < s.txs.length:=by simpa using hj
   by_cases e:i=j
   ·subst e;rw [R0 (by rw [hdl];exact hi),R0 (by rw [hle,hdl];exact hi)];exact ⟨new h1,new h2,new h3,new h4⟩
   ·rw [Rz e,Rz e];exact (h.deeds.rows j (by simpa using hj')).carry m hs (by simp) ha
theorem Yu.freed (h:Yu w0 w lab P s) (ht:t < s.ths.length) (hx:s.txs[i]? =some ⟨raw,some g⟩) (hne:∀ u,u < s.ths.length->u≠t->(s.th u).cur≠some i):
  Yu w0 (w.setCell ⟨P.kt t,2,none⟩ .nilIface) lab {P with gv:=λ u=>if u=t then .nilIface else P.gv u} {s with ths:=s.ths.set t {s.th t with cur:=none},txs:=s.txs.set i ⟨raw,none⟩}/\Kp w lab (w.setCell ⟨P.kt t,2,none⟩ .nilIface) lab:=by
 have m:Ze [P.kt t] w (w.setCell ⟨P.kt t,2,none⟩ .nilIface):=(Zr_ _ _).setCell _ _ (.inl (by simp));have hs:Kb [P.kt t] w lab [10+t]:=by intro j hj _;simp at hj;subst hj;simp [h.lt t ht]
 have h0:0∉[10+t]:=by intro q;simp at q;omega
 have h8:=h.n8;have KK:=h.keep m hs h0 (by intro q;simp at q;omega) (by intro q;simp at q;omega) Z1;obtain ⟨s',hs'⟩:∃ s':Zq,s'={s with ths:=s.ths.set t {s.th t with cur:=none},txs:=s.txs.set i ⟨raw,none⟩}:=⟨_,rfl⟩;rw [<-hs'];have hth:∀ u,s'.th u=if u=t then {s.th t with cur:=none} else s.th u:=λ u=>by rw [hs'];exact Bv _ _ _ _ ht
 have hl:s'.ths.length=s.ths.length:=by rw [hs'];simp
 have hraw:s'.txs.map (·.raw)=s.txs.map (·.raw):=by
  rw [hs'];show (s.txs.set i ⟨raw,none⟩).map (·.raw)=_;rw [List.map_set];refine Gw ?_;rw [List.getElem?_map,hx];rfl
 have e0:s'.c0=s.c0/\s'.c1=s.c1/\s'.c2=s.c2/\s'.c3=s.c3/\s'.progs=s.progs/\s'.mem=s.mem/\s'.steps=s.steps:=by rw [hs'];exact ⟨rfl,rfl,rfl,rfl,rfl,rfl,rfl⟩
 obtain ⟨q0,q1,q2,q3,q4,q5,q6⟩:=e0;refine ⟨{hx:=?_,mem:=by rw [q5];exact KK.mem (by intro q;simp at q;omega),rnd:=by rw [q1];exact KK.rnd (by intro q;simp at q;omega),prog:=by rw [q4];exact KK.prog,trow:=by rw [hl];exact KK.trow,thd:=λ u hu=>?_,lt:=λ u hu=>KK.lt u (by rw [<-hl];exact hu),call:=λ u hu=>?_,cur:=λ u j hu hj=>?_,go:=λ u hu=>?_,deeds:=by rw [hraw];exact KK.deeds (by intro q;simp at q;omega),n1:=by rw [hl];exact h.n1,n8:=by rw [hl];exact h.n8,nt:=by rw [q1,hl];exact h.nt,lx:=KK.lx,la:=KK.la,lb:=KK.lb,lr:=KK.lr,old:=KK.old,fr:=KK.fr},Kp.of m hs h0 Z1⟩
 ·have:=KK.hx (by intro q;simp at q;omega);unfold J6 at this ⊢
  rw [q0,q1,q2,q3,q6];exact this
 ·rw [hl] at hu;rw [hth]
  by_cases e:u=t
  ·subst e;simp only [if_true];rw [Zd _ (h.thd u ht)];rfl
  ·simp only [if_neg e];exact KK.thd u hu (by intro q;simp at q;omega)
 ·rw [hl] at hu;rw [hth];have:=KK.call u hu
  by_cases e:u=t
  ·subst e;rw [if_pos rfl];exact this
  ·rw [if_neg e];exact this
 ·rw [hl] at hu;rw [hth] at hj
  by_cases e:u=t
  ·rw [if_pos e] at hj;cases hj
  ·rw [if_neg e] at hj;exact h.cur u j hu hj
 ·rw [hl] at hu;show Di _ lab (30+u) (if u=t then .nilIface else P.gv u) (s'.goer u)
  by_cases e:u=t
  ·have e2:s'.goer u=none:=by
    unfold Zq.goer;rw [hth,if_pos e]
   rw [e2,if_pos e];rfl
  ·have e2:s'.goer u=s.goer u:=by
    unfold Zq.goer;rw [hth,if_neg e];cases hcu:(s.th u).cur with
    |none=>rfl
    |some j=>
     have hij:i≠j:=by
      rintro rfl;exact hne u hu e hcu
     show (match s'.txs[j]? with|some x=>x.g|none=>none)=(match s.txs[j]? with|some x=>x.g|none=>none);rw [hs'];show (match (s.txs.set i ⟨raw,none⟩)[j]? with|some x=>x.g|none=>none)=_;rw [List.getElem?_set_ne hij]
   rw [e2,if_neg e];exact KK.go u hu (by intro q;simp at q;omega)
end
section
section
variable {P:Program}
theorem Br (g o j:Nat):(⟨g,o,none⟩:Addr).add j=⟨g,o+j,none⟩:=by unfold Addr.add;split <;> simp_all
theorem J2 (w:World) (a:Addr) (ty:TypeId) (cs:Array Value) (d:TypeDesc) (hc:∀ j v,cs.toList[j]? =some v->w.cell? (a.add j)=some v)
  (hu:P.underlying ty=some d) (hd:(match d with|.struct _|.array _ _=>true|_=>false)=true) (hi:(P.info? ty).map (·.size)=some cs.size):
  (loadVar ty a).run P w=.ok (.agg cs) w:=by
 have hl:(loadCells a cs.toList.length).run P w=.ok cs.toList.toArray w:=run_loadCells_list (P:=P) w a cs.toList hc;cases hq:P.info? ty with
 |none=>simp [hq] at hi
 |some i=>
  have hs:i.size=cs.size:=by simpa [hq] using hi
  have hagg:(isAgg ty).run P w=.ok true w:=by
   unfold isAgg;rw [Sem.run_bind,run_underlying hu w];cases d <;> simp_all
  simp only [Array.length_toList,Array.toArray_toList] at hl;simp [loadVar,Sem.run_bind,hagg,sizeOf,typeInfo,hq,hs,hl]
theorem De {w:World} {o:Oper} {a:Act} {K:Value->World->Prop} (ty:TypeId) (x:Operand) (ho:o.op=.load ty x)
  (ad:Addr) (hx:a.eval x=.pointer (some ad)) (cs:Array Value) (d:TypeDesc) (hc:∀ j v,cs.toList[j]? =some v->w.cell? (ad.add j)=some v)
  (hu:P.underlying ty=some d) (hd:(match d with|.struct _|.array _ _=>true|_=>false)=true) (hi:(P.info? ty).map (·.size)=some cs.size)
  (h:K (.agg cs) w):Jy P K ((execOp a.eval o).run P w):=by
 unfold execOp;simp only [ho,hx,Instr.loadAt,Instr.sureAddr,Sem.run_bind,Sem.run_pure,Result.andThen_ok,J2 w ad ty cs d hc hu hd hi];exact h
theorem J0 {ops:Array Oper} {rest:List Oper} {o:Oper} {a:Act} {w:World} {Q:Exit->Act->World->Prop} (hgd:o.guard=none) (ty:TypeId) (x:Operand) (ho:o.op=.load ty x)
  (ad:Addr) (hx:a.eval x=.pointer (some ad)) (cs:Array Value) (d:TypeDesc) (hc:∀ j v,cs.toList[j]? =some v->w.cell? (ad.add j)=some v)
  (hu:P.underlying ty=some d) (hd:(match d with|.struct _|.array _ _=>true|_=>false)=true) (hi:(P.info? ty).map (·.size)=some cs.size)
  (h:wpList P ops Q rest (a.put o.dst (.agg cs)) w):wpList P ops Q (o :: rest) a w:=
 wpList_plain hgd λ _ hK=>by
  unfold Oper.wp execOp;simp only [ho,hx,Instr.loadAt,Instr.sureAddr,Sem.run_bind,Sem.run_pure,Result.andThen_ok,J2 w ad ty cs d hc hu hd hi];exact hK _ _ h
theorem F9 (w:World) (g o:Nat) (t ty:TypeId) (cur cells:Array Value) (hg:w.heap[g]? =some (.cells cur t (0,0))) (hi:(P.info? ty).map (·.size)=some cells.size)
  (hl:o+cells.size<=cur.size) (h1:∀ v∈cells.toList,v.oneCell'=true):
  (storeVar ty ⟨g,o,none⟩ (.agg cells)).run P w=.ok () (w.setRow g (cur.toList.take o++cells.toList++cur.toList.drop (o+cells.size)).toArray):=by
 have:=run_storeCells_at (P:=P) g o t cells.toList 0 cur w hg (by simp;omega) h1;cases hq:P.info? ty with
 |none=>simp [hq] at hi
 |some i=>
  have hs:cells.size=i.size:=by simp [hq] at hi;omega
  simp only [Nat.add_zero,Array.length_toList] at this;simp [storeVar,sizeOf,typeInfo,hq,Value.cells,hs];rw [this];simp [hs]
theorem F8 {ops:Array Oper} {rest:List Oper} {o:Oper} {a:Act} {w:World} {Q:Exit->Act->World->Prop} (hgd:o.guard=none) (ty:TypeId) (x y:Operand) (ho:o.op=.store ty x y)
  (g off:Nat) (cells:Array Value) (hx:a.eval x=.pointer (some ⟨g,off,none⟩)) (hy:a.eval y=.agg cells)
  (t:TypeId) (cur:Array Value) (hg:w.heap[g]? =some (.cells cur t (0,0))) (hi:(P.info? ty).map (·.size)=some cells.size)
  (hl:off+cells.size<=cur.size) (h1:∀ v∈cells.toList,v.oneCell'=true)
  (h:wpList P ops Q rest (a.put o.dst undef) (w.setRow g (cur.toList.take off++cells.toList++cur.toList.drop (off+cells.size)).toArray)):wpList P ops Q (o :: rest) a w:=
 wpList_plain hgd λ _ hK=>by
  unfold Oper.wp execOp;simp only [ho,hx,hy,Instr.storeAt,Instr.sureAddr,Sem.run_bind,Sem.run_pure,Result.andThen_ok,F9 w g off t ty cur cells hg hi hl h1];exact hK _ _ h
end
theorem S5 {w:World} {base e size g n cap:Nat} {xs:List Value} (h:w.ownsRow base e size (.slice (some ⟨g,0,none⟩) n cap) n xs) (cs:List Value) (o:Nat) (ho:o+cs.length<=n * size):
  ∃ cur:Array Value,w.heap[g]? =some (.cells cur e (0,0))/\o+cs.length<=cur.size/\(w.setRow g (cur.toList.take o++cs++cur.toList.drop (o+cs.length)).toArray).ownsRow base e size (.slice (some ⟨g,0,none⟩) n cap) n (xs.take o++cs++xs.drop (o+cs.length)):=by
 rcases h.2 with ⟨h',_⟩|⟨g',cap',cur,h',hb,hg,hnc,hcm,hcs,htake⟩
 ·simp at h'
 ·simp only [Value.slice.injEq,Option.some.injEq,Addr.mk.injEq,and_true,true_and] at h';obtain ⟨rfl,rfl⟩:=h';have hle:n * size<=cap * size:=Nat.mul_le_mul_right _ hnc;have hlen:cur.toList.length=cap * size:=by simpa using hcs
  have hxl:xs.length=n * size:=h.1;refine ⟨cur,hg,by rw [hcs];omega,?_,.inr ⟨g,cap,_,rfl,hb,setRow_heap w g cur _ e _ hg,hnc,hcm,?_,?_⟩⟩
  ·simp;omega
  ·simp;omega
  ·rw [<-htake];apply List.ext_getElem?;intro j;simp only [List.getElem?_take,List.getElem?_append,List.getElem?_drop,List.length_append,List.length_take]
   grind
theorem flat_row {z:Nat} {rows:List (List Value)} (hz:∀ x∈rows,x.length=z) {i:Nat} (hi:i < rows.length) (r:List Value):rows.flatten.take (i * z)++r++rows.flatten.drop (i * z+z)=(rows.set i r).flatten:=by
 induction rows generalizing i with
 |nil=>simp at hi
 |cons x rows ih=>
  have hx:=hz x (by simp);cases i with
  |zero=>simp [<-hx]
  |succ i=>
   have:=ih (λ y hy=>hz y (by simp [hy])) (by simpa using hi);simp only [List.flatten_cons,List.set_cons_succ,<-this];rw [Nat.succ_mul,show i * z+z=x.length+i * z by omega,List.take_append,List.take_of_length_le (by omega),Nat.add_sub_cancel_left,show x.length+i * z+z=x.length+(i * z+z) by omega,List.drop_append,List.drop_of_length_le (by omega)];simp;rw [hx,Nat.add_comm]
theorem Wr {l:List Zv} {es:List DX} (he:es.length=l.length) {i:Nat} (hi:i < l.length) (d:Zv) (x:DX):(Qq l es).take (i * 19)++Z5 d x++(Qq l es).drop (i * 19+19)=Qq (l.set i d) (es.set i x):=by
 unfold Qq;rw [flat_row Gi (by simp;omega),Rb]
end
end Go.Proofs.YtkhonmhnchdpkaaGreat
