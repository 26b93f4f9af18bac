/- A part of the proof; no condition. -/
import Derived.Test.YtkhonmhnchdpkaaGreatB14
set_option maxRecDepth 100000
set_option maxHeartbeats 40000000
namespace Go.Proofs.YtkhonmhnchdpkaaGreat
open Go.RowKit _root_.Go.Proofs.Tryz
open Go renaming World→W
open Value renaming int→U,slice→L
open IntKind renaming i64→Y
open Option renaming some→I,none→O
open Ending renaming returned→R_
open _root_.Go.Proofs.Tryz renaming prog→N
open List renaming getD_eq_getElem?_getD→G_
section
variable {w0 w w':W} {lab lab':Nat->Nat} {P:EP} {s s':Zn} {k n cap begun t:Nat} {a:Option Addr} {ai:Int}
theorem nat_beq (a b:Nat):((a:Int)==(b:Int))=(a==b):=by
 rw [Bool.eq_iff_iff];simp
 try omega
theorem fin_on {ti:TypeId} {u:Value} (h:w.heap[k]? =I (.cells (Qp (L a n cap) begun (.iface ti u) ai) 87 (0,0))):Calls N 43 #[Xy k] w λ e w'=>e=R_ (.bool false)/\Ze [] w w':=by
 have c2:w.cell? ⟨k,2,O⟩=I (.iface ti u):=Za h J;unfold Xy;go_enter func43,ntmps43;go_wp2;go_quiet (fail);go_wp2;go_ret;exact ⟨J,(Zr_ _ _).drewN _⟩
theorem Cb (h:w.heap[k]? =I (.cells (Qp (L a n cap) begun .nilIface ai) 87 (0,0))):Calls N 43 #[Xy k] w λ e w'=>e=R_ (.bool (begun==n))/\Ze [] w w':=by
 have c0:w.cell? ⟨k,0,O⟩=I (L a n cap):=Za h J;have c1:w.cell? ⟨k,1,O⟩=I (U Y begun):=Za h J;have c2:w.cell? ⟨k,2,O⟩=I .nilIface:=Za h J;unfold Xy;go_enter func43,ntmps43;go_wp2;go_quiet (fail);go_wp2;go_ret;exact ⟨by rw [nat_beq];rfl,(Zr_ _ _).drewN _⟩
def Zn.ug (s:Zn):Prop:=∀ t i,t < s.qi.length->(s.th t).cur=I i->∃ x g,s.qe[i]? =I x/\x.g=I g
theorem Zn.ug.zi (h:s.ug) (ht:t < s.qi.length):((s.th t).cur=O/\s.zi t=O)\/∃ i x g,(s.th t).cur=I i/\s.qe[i]? =I x/\x.g=I g/\s.zi t=I g:=by
 cases hc:(s.th t).cur with
 |none=>exact .inl ⟨J,by unfold Zn.zi;rw [hc]⟩
 |some i=>
  obtain ⟨x,g,h1,h2⟩:=h t i ht hc;exact .inr ⟨i,x,g,J,h1,h2,by unfold Zn.zi;rw [hc];simp [h1,h2]⟩
theorem Mq.kj {i:Nat} {v:Value} {g:Qt} (h:Mq w lab i v (I g)):∃ ti u,v=.iface ti u:=by
 cases g with
 |wr x=>obtain ⟨q,h,_⟩:=h;exact ⟨_,_,h⟩
 |rd x=>obtain ⟨q,h,_⟩:=h;exact ⟨_,_,h⟩
theorem fin_c (h:Ys w0 w lab P s) (hg:s.ug) (ht:t < s.qi.length):Calls N 43 #[Xy (P.kt t)] w λ e w'=>e=R_ (.bool (s.th t).fin)/\Ze [] w w':=by
 have hk:=h.jn t ht;obtain ⟨vs,_,hr,_⟩:=h.call t ht;obtain ⟨a,cap,hv⟩:=Zo hr.row;rw [hv] at hk;have G:=h.go t ht;obtain ⟨hc,hgo⟩|⟨i,x,g,hc,_,_,hgo⟩:=hg.zi ht
 ·rw [hgo] at G;have G:P.gv t=.nilIface:=G;rw [G] at hk;refine (Cb hk).mono ?_;rintro e w1 ⟨rfl,m⟩;exact ⟨by unfold Qy.fin;rw [hc];rfl,m⟩
 ·rw [hgo] at G;obtain ⟨ti,u,e⟩:=G.kj;rw [e] at hk;refine (fin_on hk).mono ?_;rintro e w1 ⟨rfl,m⟩;exact ⟨by unfold Qy.fin;rw [hc];rfl,m⟩
end
section
variable {w0 w w':W} {lab lab':Nat->Nat} {P:EP} {s s':Zn} {k n cap begun t:Nat} {a:Option Addr} {ai:Int}
theorem over_all (h:∀ j,j < s.qi.length->(s.th j).fin=true):s.qf=true:=by
 unfold Zn.qf;rw [List.all_eq_true];intro x hx;obtain ⟨j,hj,rfl⟩:=List.mem_iff_getElem.1 hx;have:=h j hj;unfold Zn.th at this;simpa [G_,hj] using this
theorem over_no {j:Nat} (hj:j < s.qi.length) (h:(s.th j).fin=false):s.qf=false:=by
 unfold Zn.qf;rw [List.all_eq_false];refine ⟨s.qi[j],List.getElem_mem hj,?_⟩;unfold Zn.th at h;simp [G_,hj] at h;simp [h]
theorem km (h:Ys w0 w lab P s) (hg:s.ug):Calls N 20 #[Xy P.x] w λ e w'=>e=R_ (.bool s.qf)/\Ze [] w w':=by
 obtain ⟨g,cap,e,_,hgl,hc⟩:=h.row;have c13:w.cell? ⟨P.x,13,O⟩=I (L (I ⟨g,0,O⟩) s.qi.length cap):=by rw [<-e];exact Za h.hx J
 obtain ⟨nt,hnt⟩:∃ z,z=s.qi.length:=⟨_,J⟩;have HN:=Zh_ hnt;have hn8:nt<=8:=by have:=h.n8;omega
 rw [<-hnt] at c13 hc;have H:=Zh_ h;have HG:=Zh_ hg;have HY:=Zh_ (over_all (s:=s));have HO:=Zh_ (λ j=>over_no (s:=s) (j:=j));clear h hg e hnt;unfold Xy;go_enter func20,ntmps20;go_wp2_with fail
 go_loopw [10] (λ i wr=>∃ k:Nat,k<=nt/\i=U Y k/\(∀ j,j < k->(s.th j).fin=true)/\Ze [] w wr) (λ i _=>nt - (intOf i).toNat)
 case atStart=>exact ⟨0,by omega,rfl,λ j hj=>absurd hj (by omega),Zr_ _ _⟩
 case round=>
  obtain ⟨k,hk,rfl,hall,m⟩:=hrel
  by_cases hlt:k < nt
  ·have c:=Z5 m hgl (by simp) (hc k hlt);have d4:decide ((k:Int) < nt)=true:=decide_eq_true (by omega);have HM:=Zh_ m;have HA:=Zh_ hall;have C:=fin_c (H.out.quiet m Z3) HG.out (by rw [<-HN.out];exact hlt);unfold Xy at c C;clear m hall hc;go_wp2_with fail;refine C.mono ?_;rintro e w2 ⟨rfl,m2⟩;have M2:=HM.out.trans m2;cases hf:(s.th k).fin
   ·go_wp2;go_ret;exact ⟨by rw [HO.out k (by rw [<-HN.out];exact hlt) hf];rfl,M2⟩
   ·go_wp2;go_roundw
    case rel=>exact ⟨k+1,by omega,by go_num,λ j hj=>by
     by_cases hjk:j=k
     ·subst hjk;exact hf
     ·exact HA.out j (by omega),M2⟩
    case measure=>simp [intOf];omega
  ·have d4:decide ((k:Int) < nt)=false:=D9 (by omega);obtain rfl:k=nt:=by omega
   go_wp2;go_ret;exact ⟨by rw [HY.out (by rw [<-HN.out];exact hall)];rfl,m⟩
end
end Go.Proofs.YtkhonmhnchdpkaaGreat
