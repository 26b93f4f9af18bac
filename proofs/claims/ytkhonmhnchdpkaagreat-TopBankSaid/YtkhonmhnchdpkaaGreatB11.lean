/- A part of the proof; no condition. -/
import Derived.Test.YtkhonmhnchdpkaaGreatB10
set_option maxRecDepth 100000
set_option maxHeartbeats 40000000
namespace Go.Proofs.YtkhonmhnchdpkaaGreat
open Go.RowKit _root_.Go.Proofs.Tryz
open Go renaming World→W
open Value renaming int→U,pointer→E
open IntKind renaming i64→Y
open Option renaming some→I,none→O
open Ending renaming returned→R_
open _root_.Go.Proofs.Tryz renaming prog→N
section
attribute [local go_sem] Zi
attribute [local go_sem] Qg Xo
variable {w w' w0 w1 w2:W} {p p':MP} {q q':WP} {x x':Zv} {m:Zk} {a b:Nat} {s s':Zh} {S:List Nat} {n:Value}
structure Bo (x:Zv):Prop where
 p1:1<=x.part
 p8:x.part<=8
 m:Ym x.m
 ql:x.ql.length<=32
 scan:x.part=5->∃ c,x.scan=I c/\c.Inv
 wr:x.part=6->x.written < x.ql.length/\x.ql.length=x.m.buf.order.length/\x.wr.Inv
def Kk (w:W) (q:WP) (a b:Nat) (x:Zv) (s:Zh) (e:Ending) (w':W):Prop:=
 ∃ v,e=R_ (.tuple #[.bool ((x.step s.opened v).1.part==9),U Y 0])/\Oi w q a b (x.step s.opened v).1 (x.step s.opened v).2 w'
theorem Oi.go (h:Oi w q a b x s w1):∃ n,Xd w q a b x n s w1:=h.imp λ _ h=>h.1
theorem wstep_1 (h:Zz w q x) (hM:Zj 137 w a b s) (hnx:q.nx=Xi 1) (ok:Bo x) (hp:x.part=1) (hlen:Zw x.c0 x.c1<=s.ws.length):Calls N 229 #[E (I ⟨q.k,0,O⟩),E (I ⟨a,0,O⟩)] w (Kk w q a b x s):=by
 have H0:=Xd.same h hM;have c6:=(H0.cell 6 (u:=U Y (Zw x.c0 x.c1)) (λ _ _ _=>J)).1;have hlt:=H0.lt;have dl:decide ((s.ws.length:Int) < Zw x.c0 x.c1)=false:=D9 (by omega);have H:=Zh_ H0;have hM:=hM.drew;clear H0 h hlen;obtain ⟨p5,hp5⟩:∃ z,z=Zw x.c0 x.c1:=⟨_,J⟩;rw [<-hp5] at c6 dl;have HP5:=Zh_ hp5;clear hp5;go_enter func229,ntmps229;go_upto_region 1 with fail
 go_cut [13] (λ A wx=>A=.bool false/\Xd w q a b x q.nx s wx)
 case first=>
  go_region_held3 (λ wx=>wx.cell? ⟨q.k,6,O⟩=I (U Y p5)) (first|exact c6|exact d6)
   (first|(go_at_call 61;refine (Ge hM).mono ?_;rintro e w2 ⟨rfl,M2,m2⟩;have G2:=Zh_ (H.out.drew.xd M2 m2);have d6:=(G2.out.cell 6 (u:=U Y p5) (λ _ _ _=>by rw [HP5.out];rfl)).1))
  all_goals
   go_wp2_with fail;go_meet;exact ⟨J,G2.out⟩
 case rest=>
  obtain ⟨rfl,G2⟩:=hcut;clear c6 hM hlt dl;have c11:=(G2.cell 11 (u:=U Y x.part) (λ _ _ _=>J)).1;rw [hp] at c11;have hlt:=G2.lt;have hM:=G2.xe;have G2:=Zh_ G2;have OK:=Zh_ ok;have HP:=Zh_ hp;have HNX:=Zh_ hnx;clear ok hp hnx H;go_wp2_with fail;refine (U8 hM).mono ?_;rintro e w3 ⟨rfl,M3,m3⟩;have G3:=G2.out.xd M3 m3;obtain ⟨u12,c12,f12⟩:=G3.xu;have c0:=(G3.cell 0 (u:=Xi 1) (λ r _ hn=>by rw [<-HNX.out,<-hn];rfl)).1;replace c0:w3.cell? ⟨q.k,0,O⟩=I (.func (.func 88) #[] #[]):=c0;have hlt:=G3.lt;have G3:=Zh_ G3;clear M3 m3 c11 hM G2;go_wp2_with fail;have G6:=Zh_ (G3.out.kg (wrap64 (u12+1)));have hn:=HNX.out;have hp:=HP.out;have ok:=OK.out;refine (draws_c G6.out).mono ?_;rintro e w7 ⟨rfl,R7⟩;obtain ⟨v,hv⟩:∃ v:Nat,v=0:=⟨_,J⟩;have hs:x.step s.opened v=({x with qc:=s.opened.xv 0,part:=2},s.opened.add 0 1):=by unfold Zv.step;rw [hp];simp
  obtain ⟨y,hy⟩:∃ y,y={x with qc:=s.opened.xv 0,part:=2}:=⟨_,J⟩;obtain ⟨s',hs'⟩:∃ z,z=s.opened.add 0 1:=⟨_,J⟩;rw [<-hy,<-hs'] at R7;have HV:=Zh_ (show (x.step s.opened v).1=y from by rw [hs,hy]);have HV2:=Zh_ (show (x.step s.opened v).2=s' from by rw [hs,hs']);clear hs hy hs' hv;obtain ⟨n7,G7⟩:=R7.go;have c11:=(G7.cell 11 (u:=U Y y.part) (λ _ _ _=>J)).1;have R7:=Zh_ R7;clear G7 c12 f12 c0 hlt hn hp ok;go_wp2;go_ret2;exact ⟨v,by rw [HV.out];rfl,by rw [HV.out,HV2.out];exact R7.out⟩
theorem wstep_2 (h:Zz w q x) (hM:Zj 137 w a b s) (hnx:q.nx=Xi 2) (ok:Bo x) (hp:x.part=2) (hlen:Zw x.c0 x.c1<=s.ws.length):Calls N 229 #[E (I ⟨q.k,0,O⟩),E (I ⟨a,0,O⟩)] w (Kk w q a b x s):=by
 have H0:=Xd.same h hM;have c6:=(H0.cell 6 (u:=U Y (Zw x.c0 x.c1)) (λ _ _ _=>J)).1;have hlt:=H0.lt;have dl:decide ((s.ws.length:Int) < Zw x.c0 x.c1)=false:=D9 (by omega);have H:=Zh_ H0;have hM:=hM.drew;clear H0 h hlen;obtain ⟨p5,hp5⟩:∃ z,z=Zw x.c0 x.c1:=⟨_,J⟩;rw [<-hp5] at c6 dl;have HP5:=Zh_ hp5;clear hp5;go_enter func229,ntmps229;go_upto_region 1 with fail
 go_cut [13] (λ A wx=>A=.bool false/\Xd w q a b x q.nx s wx)
 case first=>
  go_region_held3 (λ wx=>wx.cell? ⟨q.k,6,O⟩=I (U Y p5)) (first|exact c6|exact d6)
   (first|(go_at_call 61;refine (Ge hM).mono ?_;rintro e w2 ⟨rfl,M2,m2⟩;have G2:=Zh_ (H.out.drew.xd M2 m2);have d6:=(G2.out.cell 6 (u:=U Y p5) (λ _ _ _=>by rw [HP5.out];rfl)).1))
  all_goals
   go_wp2_with fail;go_meet;exact ⟨J,G2.out⟩
 case rest=>
  obtain ⟨rfl,G2⟩:=hcut;clear c6 hM hlt dl;have c11:=(G2.cell 11 (u:=U Y x.part) (λ _ _ _=>J)).1;rw [hp] at c11;have hlt:=G2.lt;have hM:=G2.xe;have G2:=Zh_ G2;have OK:=Zh_ ok;have HP:=Zh_ hp;have HNX:=Zh_ hnx;clear ok hp hnx H;go_wp2_with fail;refine (U8 hM).mono ?_;rintro e w3 ⟨rfl,M3,m3⟩;have G3:=G2.out.xd M3 m3;obtain ⟨u12,c12,f12⟩:=G3.xu;have c0:=(G3.cell 0 (u:=Xi 2) (λ r _ hn=>by rw [<-HNX.out,<-hn];rfl)).1;replace c0:w3.cell? ⟨q.k,0,O⟩=I (.func (.func 89) #[] #[]):=c0;have hlt:=G3.lt;have G3:=Zh_ G3;clear M3 m3 c11 hM G2;go_wp2_with fail;have G6:=Zh_ (G3.out.kg (wrap64 (u12+1)));have hn:=HNX.out;have hp:=HP.out;have ok:=OK.out;refine (waits_c G6.out hn hp).mono ?_;rintro e w7 ⟨rfl,R7⟩;obtain ⟨v,hv⟩:∃ v:Nat,v=0:=⟨_,J⟩;have hs:x.step s.opened v=({x with part:=if s.opened.look 1 x.qc=true then 3 else 2},s.opened.load 1):=by unfold Zv.step;rw [hp];simp
  obtain ⟨y,hy⟩:∃ y,y={x with part:=if s.opened.look 1 x.qc=true then 3 else 2}:=⟨_,J⟩;obtain ⟨s',hs'⟩:∃ z,z=s.opened.load 1:=⟨_,J⟩;rw [<-hy,<-hs'] at R7;have HV:=Zh_ (show (x.step s.opened v).1=y from by rw [hs,hy]);have HV2:=Zh_ (show (x.step s.opened v).2=s' from by rw [hs,hs']);clear hs hy hs' hv;obtain ⟨n7,G7⟩:=R7.go;have c11:=(G7.cell 11 (u:=U Y y.part) (λ _ _ _=>J)).1;have R7:=Zh_ R7;clear G7 c12 f12 c0 hlt hn hp ok;go_wp2;go_ret2;exact ⟨v,by rw [HV.out];rfl,by rw [HV.out,HV2.out];exact R7.out⟩
theorem wstep_3 (h:Zz w q x) (hM:Zj 137 w a b s) (hnx:q.nx=Xi 3) (ok:Bo x) (hp:x.part=3) (hlen:Zw x.c0 x.c1<=s.ws.length):Calls N 229 #[E (I ⟨q.k,0,O⟩),E (I ⟨a,0,O⟩)] w (Kk w q a b x s):=by
 have H0:=Xd.same h hM;have c6:=(H0.cell 6 (u:=U Y (Zw x.c0 x.c1)) (λ _ _ _=>J)).1;have hlt:=H0.lt;have dl:decide ((s.ws.length:Int) < Zw x.c0 x.c1)=false:=D9 (by omega);have H:=Zh_ H0;have hM:=hM.drew;clear H0 h hlen;obtain ⟨p5,hp5⟩:∃ z,z=Zw x.c0 x.c1:=⟨_,J⟩;rw [<-hp5] at c6 dl;have HP5:=Zh_ hp5;clear hp5;go_enter func229,ntmps229;go_upto_region 1 with fail
 go_cut [13] (λ A wx=>A=.bool false/\Xd w q a b x q.nx s wx)
 case first=>
  go_region_held3 (λ wx=>wx.cell? ⟨q.k,6,O⟩=I (U Y p5)) (first|exact c6|exact d6)
   (first|(go_at_call 61;refine (Ge hM).mono ?_;rintro e w2 ⟨rfl,M2,m2⟩;have G2:=Zh_ (H.out.drew.xd M2 m2);have d6:=(G2.out.cell 6 (u:=U Y p5) (λ _ _ _=>by rw [HP5.out];rfl)).1))
  all_goals
   go_wp2_with fail;go_meet;exact ⟨J,G2.out⟩
 case rest=>
  obtain ⟨rfl,G2⟩:=hcut;clear c6 hM hlt dl;have c11:=(G2.cell 11 (u:=U Y x.part) (λ _ _ _=>J)).1;rw [hp] at c11;have hlt:=G2.lt;have hM:=G2.xe;have G2:=Zh_ G2;have OK:=Zh_ ok;have HP:=Zh_ hp;have HNX:=Zh_ hnx;clear ok hp hnx H;go_wp2_with fail;refine (U8 hM).mono ?_;rintro e w3 ⟨rfl,M3,m3⟩;have G3:=G2.out.xd M3 m3;obtain ⟨u12,c12,f12⟩:=G3.xu;have c0:=(G3.cell 0 (u:=Xi 3) (λ r _ hn=>by rw [<-HNX.out,<-hn];rfl)).1;replace c0:w3.cell? ⟨q.k,0,O⟩=I (.func (.func 90) #[] #[]):=c0;have hlt:=G3.lt;have G3:=Zh_ G3;clear M3 m3 c11 hM G2;go_wp2_with fail;have G6:=Zh_ (G3.out.kg (wrap64 (u12+1)));have hn:=HNX.out;have hp:=HP.out;have ok:=OK.out;refine (marks_c G6.out).mono ?_;rintro e w7 ⟨rfl,R7⟩;obtain ⟨v,hv⟩:∃ v:Nat,v=0:=⟨_,J⟩;have hs:x.step s.opened v=({x with qg:=s.opened.xv 2,part:=4},s.opened.load 2):=by unfold Zv.step;rw [hp];simp
  obtain ⟨y,hy⟩:∃ y,y={x with qg:=s.opened.xv 2,part:=4}:=⟨_,J⟩;obtain ⟨s',hs'⟩:∃ z,z=s.opened.load 2:=⟨_,J⟩;rw [<-hy,<-hs'] at R7;have HV:=Zh_ (show (x.step s.opened v).1=y from by rw [hs,hy]);have HV2:=Zh_ (show (x.step s.opened v).2=s' from by rw [hs,hs']);clear hs hy hs' hv;obtain ⟨n7,G7⟩:=R7.go;have c11:=(G7.cell 11 (u:=U Y y.part) (λ _ _ _=>J)).1;have R7:=Zh_ R7;clear G7 c12 f12 c0 hlt hn hp ok;go_wp2;go_ret2;exact ⟨v,by rw [HV.out];rfl,by rw [HV.out,HV2.out];exact R7.out⟩
theorem wstep_4 (h:Zz w q x) (hM:Zj 137 w a b s) (hnx:q.nx=Xi 4) (ok:Bo x) (hp:x.part=4) (hlen:Zw x.c0 x.c1<=s.ws.length):Calls N 229 #[E (I ⟨q.k,0,O⟩),E (I ⟨a,0,O⟩)] w (Kk w q a b x s):=by
 have H0:=Xd.same h hM;have c6:=(H0.cell 6 (u:=U Y (Zw x.c0 x.c1)) (λ _ _ _=>J)).1;have hlt:=H0.lt;have dl:decide ((s.ws.length:Int) < Zw x.c0 x.c1)=false:=D9 (by omega);have H:=Zh_ H0;have hM:=hM.drew;clear H0 h hlen;obtain ⟨p5,hp5⟩:∃ z,z=Zw x.c0 x.c1:=⟨_,J⟩;rw [<-hp5] at c6 dl;have HP5:=Zh_ hp5;clear hp5;go_enter func229,ntmps229;go_upto_region 1 with fail
 go_cut [13] (λ A wx=>A=.bool false/\Xd w q a b x q.nx s wx)
 case first=>
  go_region_held3 (λ wx=>wx.cell? ⟨q.k,6,O⟩=I (U Y p5)) (first|exact c6|exact d6)
   (first|(go_at_call 61;refine (Ge hM).mono ?_;rintro e w2 ⟨rfl,M2,m2⟩;have G2:=Zh_ (H.out.drew.xd M2 m2);have d6:=(G2.out.cell 6 (u:=U Y p5) (λ _ _ _=>by rw [HP5.out];rfl)).1))
  all_goals
   go_wp2_with fail;go_meet;exact ⟨J,G2.out⟩
 case rest=>
  obtain ⟨rfl,G2⟩:=hcut;clear c6 hM hlt dl;have c11:=(G2.cell 11 (u:=U Y x.part) (λ _ _ _=>J)).1;rw [hp] at c11;have hlt:=G2.lt;have hM:=G2.xe;have G2:=Zh_ G2;have OK:=Zh_ ok;have HP:=Zh_ hp;have HNX:=Zh_ hnx;clear ok hp hnx H;go_wp2_with fail;refine (U8 hM).mono ?_;rintro e w3 ⟨rfl,M3,m3⟩;have G3:=G2.out.xd M3 m3;obtain ⟨u12,c12,f12⟩:=G3.xu;have c0:=(G3.cell 0 (u:=Xi 4) (λ r _ hn=>by rw [<-HNX.out,<-hn];rfl)).1;replace c0:w3.cell? ⟨q.k,0,O⟩=I (.func (.func 91) #[] #[]):=c0;have hlt:=G3.lt;have G3:=Zh_ G3;clear M3 m3 c11 hM G2;go_wp2_with fail;have G6:=Zh_ (G3.out.kg (wrap64 (u12+1)));have hn:=HNX.out;have hp:=HP.out;have ok:=OK.out;refine (runs_c G6.out hn hp ok.m (by have:=ok.ql;omega)).mono ?_;rintro e w7 ⟨v,rfl,R7⟩;have hs:x.step s.opened v=x.runs s.opened v:=by unfold Zv.step;rw [hp];simp
  obtain ⟨y,hy⟩:∃ y,y=(x.runs s.opened v).1:=⟨_,J⟩;obtain ⟨s',hs'⟩:∃ z,z=(x.runs s.opened v).2:=⟨_,J⟩;rw [<-hy,<-hs'] at R7;have HV:=Zh_ (show (x.step s.opened v).1=y from by rw [hs,hy]);have HV2:=Zh_ (show (x.step s.opened v).2=s' from by rw [hs,hs']);clear hs hy hs';obtain ⟨n7,G7⟩:=R7.go;have c11:=(G7.cell 11 (u:=U Y y.part) (λ _ _ _=>J)).1;have R7:=Zh_ R7;clear G7 c12 f12 c0 hlt hn hp ok;go_wp2;go_ret2;exact ⟨v,by rw [HV.out];rfl,by rw [HV.out,HV2.out];exact R7.out⟩
theorem wstep_5 (h:Zz w q x) (hM:Zj 137 w a b s) (hnx:q.nx=Xi 5) (ok:Bo x) (hp:x.part=5) (hlen:Zw x.c0 x.c1<=s.ws.length):Calls N 229 #[E (I ⟨q.k,0,O⟩),E (I ⟨a,0,O⟩)] w (Kk w q a b x s):=by
 obtain ⟨c,hc,hci⟩:=ok.scan hp;have H0:=Xd.same h hM;have c6:=(H0.cell 6 (u:=U Y (Zw x.c0 x.c1)) (λ _ _ _=>J)).1;have hlt:=H0.lt;have dl:decide ((s.ws.length:Int) < Zw x.c0 x.c1)=false:=D9 (by omega);have H:=Zh_ H0;have hM:=hM.drew;clear H0 h hlen;obtain ⟨p5,hp5⟩:∃ z,z=Zw x.c0 x.c1:=⟨_,J⟩;rw [<-hp5] at c6 dl;have HP5:=Zh_ hp5;clear hp5;go_enter func229,ntmps229;go_upto_region 1 with fail
 go_cut [13] (λ A wx=>A=.bool false/\Xd w q a b x q.nx s wx)
 case first=>
  go_region_held3 (λ wx=>wx.cell? ⟨q.k,6,O⟩=I (U Y p5)) (first|exact c6|exact d6)
   (first|(go_at_call 61;refine (Ge hM).mono ?_;rintro e w2 ⟨rfl,M2,m2⟩;have G2:=Zh_ (H.out.drew.xd M2 m2);have d6:=(G2.out.cell 6 (u:=U Y p5) (λ _ _ _=>by rw [HP5.out];rfl)).1))
  all_goals
   go_wp2_with fail;go_meet;exact ⟨J,G2.out⟩
 case rest=>
  obtain ⟨rfl,G2⟩:=hcut;clear c6 hM hlt dl;have c11:=(G2.cell 11 (u:=U Y x.part) (λ _ _ _=>J)).1;rw [hp] at c11;have hlt:=G2.lt;have hM:=G2.xe;have G2:=Zh_ G2;have OK:=Zh_ ok;have HP:=Zh_ hp;have HNX:=Zh_ hnx;clear ok hp hnx H;go_wp2_with fail;refine (U8 hM).mono ?_;rintro e w3 ⟨rfl,M3,m3⟩;have G3:=G2.out.xd M3 m3;obtain ⟨u12,c12,f12⟩:=G3.xu;have c0:=(G3.cell 0 (u:=Xi 5) (λ r _ hn=>by rw [<-HNX.out,<-hn];rfl)).1;replace c0:w3.cell? ⟨q.k,0,O⟩=I (.func (.func 92) #[] #[]):=c0;have hlt:=G3.lt;have G3:=Zh_ G3;clear M3 m3 c11 hM G2;go_wp2_with fail;have G6:=Zh_ (G3.out.kg (wrap64 (u12+1)));have hn:=HNX.out;have hp:=HP.out;have ok:=OK.out;refine (scans_c G6.out hn hp hc hci (by have:=ok.ql;omega)).mono ?_;rintro e w7 ⟨rfl,R7⟩;obtain ⟨v,hv⟩:∃ v:Nat,v=0:=⟨_,J⟩;have hs:x.step s.opened v=((x.jc s.opened).1,(x.jc s.opened).2):=by unfold Zv.step;rw [hp];simp
  obtain ⟨y,hy⟩:∃ y,y=(x.jc s.opened).1:=⟨_,J⟩;obtain ⟨s',hs'⟩:∃ z,z=(x.jc s.opened).2:=⟨_,J⟩;rw [<-hy,<-hs'] at R7;have HV:=Zh_ (show (x.step s.opened v).1=y from by rw [hs,hy]);have HV2:=Zh_ (show (x.step s.opened v).2=s' from by rw [hs,hs']);clear hs hy hs' hv;obtain ⟨n7,G7⟩:=R7.go;have c11:=(G7.cell 11 (u:=U Y y.part) (λ _ _ _=>J)).1;have R7:=Zh_ R7;clear G7 c12 f12 c0 hlt hn hp ok;go_wp2;go_ret2;exact ⟨v,by rw [HV.out];rfl,by rw [HV.out,HV2.out];exact R7.out⟩
theorem wstep_6 (h:Zz w q x) (hM:Zj 137 w a b s) (hnx:q.nx=Xi 6) (ok:Bo x) (hp:x.part=6) (hlen:Zw x.c0 x.c1<=s.ws.length):Calls N 229 #[E (I ⟨q.k,0,O⟩),E (I ⟨a,0,O⟩)] w (Kk w q a b x s):=by
 obtain ⟨hw,he,hwi⟩:=ok.wr hp;have H0:=Xd.same h hM;have c6:=(H0.cell 6 (u:=U Y (Zw x.c0 x.c1)) (λ _ _ _=>J)).1;have hlt:=H0.lt;have dl:decide ((s.ws.length:Int) < Zw x.c0 x.c1)=false:=D9 (by omega);have H:=Zh_ H0;have hM:=hM.drew;clear H0 h hlen;obtain ⟨p5,hp5⟩:∃ z,z=Zw x.c0 x.c1:=⟨_,J⟩;rw [<-hp5] at c6 dl;have HP5:=Zh_ hp5;clear hp5;go_enter func229,ntmps229;go_upto_region 1 with fail
 go_cut [13] (λ A wx=>A=.bool false/\Xd w q a b x q.nx s wx)
 case first=>
  go_region_held3 (λ wx=>wx.cell? ⟨q.k,6,O⟩=I (U Y p5)) (first|exact c6|exact d6)
   (first|(go_at_call 61;refine (Ge hM).mono ?_;rintro e w2 ⟨rfl,M2,m2⟩;have G2:=Zh_ (H.out.drew.xd M2 m2);have d6:=(G2.out.cell 6 (u:=U Y p5) (λ _ _ _=>by rw [HP5.out];rfl)).1))
  all_goals
   go_wp2_with fail;go_meet;exact ⟨J,G2.out⟩
 case rest=>
  obtain ⟨rfl,G2⟩:=hcut;clear c6 hM hlt dl;have c11:=(G2.cell 11 (u:=U Y x.part) (λ _ _ _=>J)).1;rw [hp] at c11;have hlt:=G2.lt;have hM:=G2.xe;have G2:=Zh_ G2;have OK:=Zh_ ok;have HP:=Zh_ hp;have HNX:=Zh_ hnx;clear ok hp hnx H;go_wp2_with fail;refine (U8 hM).mono ?_;rintro e w3 ⟨rfl,M3,m3⟩;have G3:=G2.out.xd M3 m3;obtain ⟨u12,c12,f12⟩:=G3.xu;have c0:=(G3.cell 0 (u:=Xi 6) (λ r _ hn=>by rw [<-HNX.out,<-hn];rfl)).1;replace c0:w3.cell? ⟨q.k,0,O⟩=I (.func (.func 93) #[] #[]):=c0;have hlt:=G3.lt;have G3:=Zh_ G3;clear M3 m3 c11 hM G2;go_wp2_with fail;have G6:=Zh_ (G3.out.kg (wrap64 (u12+1)));have hn:=HNX.out;have hp:=HP.out;have ok:=OK.out;refine (Om G6.out hn hp hw he (by have:=ok.ql;omega) ok.m.order hwi).mono ?_;rintro e w7 ⟨rfl,R7⟩;obtain ⟨v,hv⟩:∃ v:Nat,v=0:=⟨_,J⟩;have hs:x.step s.opened v=((x.writes s.opened).1,(x.writes s.opened).2):=by unfold Zv.step;rw [hp];simp
  obtain ⟨y,hy⟩:∃ y,y=(x.writes s.opened).1:=⟨_,J⟩;obtain ⟨s',hs'⟩:∃ z,z=(x.writes s.opened).2:=⟨_,J⟩;rw [<-hy,<-hs'] at R7;have HV:=Zh_ (show (x.step s.opened v).1=y from by rw [hs,hy]);have HV2:=Zh_ (show (x.step s.opened v).2=s' from by rw [hs,hs']);clear hs hy hs' hv;obtain ⟨n7,G7⟩:=R7.go;have c11:=(G7.cell 11 (u:=U Y y.part) (λ _ _ _=>J)).1;have R7:=Zh_ R7;clear G7 c12 f12 c0 hlt hn hp ok;go_wp2;go_ret2;exact ⟨v,by rw [HV.out];rfl,by rw [HV.out,HV2.out];exact R7.out⟩
theorem wstep_7 (h:Zz w q x) (hM:Zj 137 w a b s) (hnx:q.nx=Xi 7) (ok:Bo x) (hp:x.part=7) (hlen:Zw x.c0 x.c1<=s.ws.length):Calls N 229 #[E (I ⟨q.k,0,O⟩),E (I ⟨a,0,O⟩)] w (Kk w q a b x s):=by
 have H0:=Xd.same h hM;have c6:=(H0.cell 6 (u:=U Y (Zw x.c0 x.c1)) (λ _ _ _=>J)).1;have hlt:=H0.lt;have dl:decide ((s.ws.length:Int) < Zw x.c0 x.c1)=false:=D9 (by omega);have H:=Zh_ H0;have hM:=hM.drew;clear H0 h hlen;obtain ⟨p5,hp5⟩:∃ z,z=Zw x.c0 x.c1:=⟨_,J⟩;rw [<-hp5] at c6 dl;have HP5:=Zh_ hp5;clear hp5;go_enter func229,ntmps229;go_upto_region 1 with fail
 go_cut [13] (λ A wx=>A=.bool false/\Xd w q a b x q.nx s wx)
 case first=>
  go_region_held3 (λ wx=>wx.cell? ⟨q.k,6,O⟩=I (U Y p5)) (first|exact c6|exact d6)
   (first|(go_at_call 61;refine (Ge hM).mono ?_;rintro e w2 ⟨rfl,M2,m2⟩;have G2:=Zh_ (H.out.drew.xd M2 m2);have d6:=(G2.out.cell 6 (u:=U Y p5) (λ _ _ _=>by rw [HP5.out];rfl)).1))
  all_goals
   go_wp2_with fail;go_meet;exact ⟨J,G2.out⟩
 case rest=>
  obtain ⟨rfl,G2⟩:=hcut;clear c6 hM hlt dl;have c11:=(G2.cell 11 (u:=U Y x.part) (λ _ _ _=>J)).1;rw [hp] at c11;have hlt:=G2.lt;have hM:=G2.xe;have G2:=Zh_ G2;have OK:=Zh_ ok;have HP:=Zh_ hp;have HNX:=Zh_ hnx;clear ok hp hnx H;go_wp2_with fail;refine (U8 hM).mono ?_;rintro e w3 ⟨rfl,M3,m3⟩;have G3:=G2.out.xd M3 m3;obtain ⟨u12,c12,f12⟩:=G3.xu;have c0:=(G3.cell 0 (u:=Xi 7) (λ r _ hn=>by rw [<-HNX.out,<-hn];rfl)).1;replace c0:w3.cell? ⟨q.k,0,O⟩=I (.func (.func 94) #[] #[]):=c0;have hlt:=G3.lt;have G3:=Zh_ G3;clear M3 m3 c11 hM G2;go_wp2_with fail;have G6:=Zh_ (G3.out.kg (wrap64 (u12+1)));have hn:=HNX.out;have hp:=HP.out;have ok:=OK.out;refine (Lf G6.out).mono ?_;rintro e w7 ⟨rfl,R7⟩;obtain ⟨v,hv⟩:∃ v:Nat,v=0:=⟨_,J⟩;have hs:x.step s.opened v=({x with number:=wrap64 (u64 (x.qg+1)),part:=8},s.opened.store 2 (u64 (x.qg+1))):=by unfold Zv.step;rw [hp];simp
  obtain ⟨y,hy⟩:∃ y,y={x with number:=wrap64 (u64 (x.qg+1)),part:=8}:=⟨_,J⟩;obtain ⟨s',hs'⟩:∃ z,z=s.opened.store 2 (u64 (x.qg+1)):=⟨_,J⟩;rw [<-hy,<-hs'] at R7;have HV:=Zh_ (show (x.step s.opened v).1=y from by rw [hs,hy]);have HV2:=Zh_ (show (x.step s.opened v).2=s' from by rw [hs,hs']);clear hs hy hs' hv;obtain ⟨n7,G7⟩:=R7.go;have c11:=(G7.cell 11 (u:=U Y y.part) (λ _ _ _=>J)).1;have R7:=Zh_ R7;clear G7 c12 f12 c0 hlt hn hp ok;go_wp2;go_ret2;exact ⟨v,by rw [HV.out];rfl,by rw [HV.out,HV2.out];exact R7.out⟩
theorem wstep_8 (h:Zz w q x) (hM:Zj 137 w a b s) (hnx:q.nx=Xi 8) (ok:Bo x) (hp:x.part=8) (hlen:Zw x.c0 x.c1<=s.ws.length):Calls N 229 #[E (I ⟨q.k,0,O⟩),E (I ⟨a,0,O⟩)] w (Kk w q a b x s):=by
 have H0:=Xd.same h hM;have c6:=(H0.cell 6 (u:=U Y (Zw x.c0 x.c1)) (λ _ _ _=>J)).1;have hlt:=H0.lt;have dl:decide ((s.ws.length:Int) < Zw x.c0 x.c1)=false:=D9 (by omega);have H:=Zh_ H0;have hM:=hM.drew;clear H0 h hlen;obtain ⟨p5,hp5⟩:∃ z,z=Zw x.c0 x.c1:=⟨_,J⟩;rw [<-hp5] at c6 dl;have HP5:=Zh_ hp5;clear hp5;go_enter func229,ntmps229;go_upto_region 1 with fail
 go_cut [13] (λ A wx=>A=.bool false/\Xd w q a b x q.nx s wx)
 case first=>
  go_region_held3 (λ wx=>wx.cell? ⟨q.k,6,O⟩=I (U Y p5)) (first|exact c6|exact d6)
   (first|(go_at_call 61;refine (Ge hM).mono ?_;rintro e w2 ⟨rfl,M2,m2⟩;have G2:=Zh_ (H.out.drew.xd M2 m2);have d6:=(G2.out.cell 6 (u:=U Y p5) (λ _ _ _=>by rw [HP5.out];rfl)).1))
  all_goals
   go_wp2_with fail;go_meet;exact ⟨J,G2.out⟩
 case rest=>
  obtain ⟨rfl,G2⟩:=hcut;clear c6 hM hlt dl;have c11:=(G2.cell 11 (u:=U Y x.part) (λ _ _ _=>J)).1;rw [hp] at c11;have hlt:=G2.lt;have hM:=G2.xe;have G2:=Zh_ G2;have OK:=Zh_ ok;have HP:=Zh_ hp;have HNX:=Zh_ hnx;clear ok hp hnx H;go_wp2_with fail;refine (U8 hM).mono ?_;rintro e w3 ⟨rfl,M3,m3⟩;have G3:=G2.out.xd M3 m3;obtain ⟨u12,c12,f12⟩:=G3.xu;have c0:=(G3.cell 0 (u:=Xi 8) (λ r _ hn=>by rw [<-HNX.out,<-hn];rfl)).1;replace c0:w3.cell? ⟨q.k,0,O⟩=I (.func (.func 95) #[] #[]):=c0;have hlt:=G3.lt;have G3:=Zh_ G3;clear M3 m3 c11 hM G2;go_wp2_with fail;have G6:=Zh_ (G3.out.kg (wrap64 (u12+1)));have hn:=HNX.out;have hp:=HP.out;have ok:=OK.out;refine (passes_c G6.out).mono ?_;rintro e w7 ⟨rfl,R7⟩;obtain ⟨v,hv⟩:∃ v:Nat,v=0:=⟨_,J⟩;have hs:x.step s.opened v=({x with part:=9},s.opened.store 1 (u64 (x.qc+1))):=by unfold Zv.step;rw [hp];simp
  obtain ⟨y,hy⟩:∃ y,y={x with part:=9}:=⟨_,J⟩;obtain ⟨s',hs'⟩:∃ z,z=s.opened.store 1 (u64 (x.qc+1)):=⟨_,J⟩;rw [<-hy,<-hs'] at R7;have HV:=Zh_ (show (x.step s.opened v).1=y from by rw [hs,hy]);have HV2:=Zh_ (show (x.step s.opened v).2=s' from by rw [hs,hs']);clear hs hy hs' hv;obtain ⟨n7,G7⟩:=R7.go;have c11:=(G7.cell 11 (u:=U Y y.part) (λ _ _ _=>J)).1;have R7:=Zh_ R7;clear G7 c12 f12 c0 hlt hn hp ok;go_wp2;go_ret2;exact ⟨v,by rw [HV.out];rfl,by rw [HV.out,HV2.out];exact R7.out⟩
theorem Ok (h:Zz w q x) (hM:Zj 137 w a b s) (hnx:q.nx=Xi x.part) (ok:Bo x) (hlen:Zw x.c0 x.c1<=s.ws.length):Calls N 229 #[E (I ⟨q.k,0,O⟩),E (I ⟨a,0,O⟩)] w (Kk w q a b x s):=by
 have hh:x.part=1\/x.part=2\/x.part=3\/x.part=4\/x.part=5\/x.part=6\/x.part=7\/x.part=8:=by have:=ok.p1;have:=ok.p8;omega
 rcases hh with hp|hp|hp|hp|hp|hp|hp|hp
 ·exact wstep_1 h hM (by rw [hnx,hp]) ok hp hlen
 ·exact wstep_2 h hM (by rw [hnx,hp]) ok hp hlen
 ·exact wstep_3 h hM (by rw [hnx,hp]) ok hp hlen
 ·exact wstep_4 h hM (by rw [hnx,hp]) ok hp hlen
 ·exact wstep_5 h hM (by rw [hnx,hp]) ok hp hlen
 ·exact wstep_6 h hM (by rw [hnx,hp]) ok hp hlen
 ·exact wstep_7 h hM (by rw [hnx,hp]) ok hp hlen
 ·exact wstep_8 h hM (by rw [hnx,hp]) ok hp hlen
end
end Go.Proofs.YtkhonmhnchdpkaaGreat
