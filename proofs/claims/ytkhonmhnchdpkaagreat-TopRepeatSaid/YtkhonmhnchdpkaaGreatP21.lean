/- A part of the proof; no condition. -/
import Derived.Test.YtkhonmhnchdpkaaGreatP20
set_option maxRecDepth 100000
set_option maxHeartbeats 40000000
namespace Go.Proofs.YtkhonmhnchdpkaaGreat
open Go.RowKit _root_.Go.Proofs.Tryz
section
attribute [local go_sem] Zj
attribute [local go_sem] Qa Xk
variable {w w' w0 w1 w2:World} {p p':MP} {q q':WP} {x x':Z2} {m:Zl} {a b:Nat} {s s':Zh} {S:List Nat} {n:Value}
structure Kx (x:Z2):Prop where
 p1:1<=x.part
 p8:x.part<=8
 m:Yl x.m
 was:x.was.length<=32
 scan:x.part=5->∃ c,x.scan=some c/\c.Inv
 wr:x.part=6->x.written < x.was.length/\x.was.length=x.m.buf.order.length/\x.wr.Inv
def Jq (w:World) (q:WP) (a b:Nat) (x:Z2) (s:Zh) (e:Ending) (w':World):Prop:=
 ∃ v,e=.returned (.tuple #[.bool ((x.step s.opened v).1.part==9),.int .i64 0])/\Sm w q a b (x.step s.opened v).1 (x.step s.opened v).2 w'
theorem Sm.go (h:Sm w q a b x s w1):∃ n,Xc w q a b x n s w1:=h.imp λ _ h=>h.1
theorem wstep_1 (h:Zx w q x) (hM:Zi 137 w a b s) (hnx:q.nx=Xe 1) (ok:Kx x) (hp:x.part=1) (hlen:Zw x.c0 x.c1<=s.ws.length):Calls Tryz.prog 229 #[.pointer (some ⟨q.k,0,none⟩),.pointer (some ⟨a,0,none⟩)] w (Jq w q a b x s):=by
 have H0:=Xc.same h hM;have c6:=(H0.cell 6 (u:=.int .i64 (Zw x.c0 x.c1)) (λ _ _ _=>rfl)).1;have hlt:=H0.lt;have dl:decide ((s.ws.length:Int) < Zw x.c0 x.c1)=false:=decide_eq_false (by omega);have H:=Zh_ H0;have hM:=hM.drew;clear H0 h hlen;obtain ⟨p5,hp5⟩:∃ z,z=Zw x.c0 x.c1:=⟨_,rfl⟩;rw [<-hp5] at c6 dl;have HP5:=Zh_ hp5;clear hp5;go_enter func229,ntmps229;go_upto_region 1 with fail
 go_cut [13] (λ A wx=>A=.bool false/\Xc w q a b x q.nx s wx)
 case first=>
  go_region_held3 (λ wx=>wx.cell? ⟨q.k,6,none⟩=some (.int .i64 p5)) (first|exact c6|exact d6)
   (first|(go_at_call 61;refine (J5 hM).mono ?_;rintro e w2 ⟨rfl,M2,m2⟩;have G2:=Zh_ (H.out.drew.memC M2 m2);have d6:=(G2.out.cell 6 (u:=.int .i64 p5) (λ _ _ _=>by rw [HP5.out];rfl)).1))
  all_goals
   go_wp2_with fail;go_meet;exact ⟨rfl,G2.out⟩
 case rest=>
  obtain ⟨rfl,G2⟩:=hcut;clear c6 hM hlt dl;have c11:=(G2.cell 11 (u:=.int .i64 x.part) (λ _ _ _=>rfl)).1;rw [hp] at c11;have hlt:=G2.lt;have hM:=G2.memA;have G2:=Zh_ G2;have OK:=Zh_ ok;have HP:=Zh_ hp;have HNX:=Zh_ hnx;clear ok hp hnx H;go_wp2_with fail;refine (Ug hM).mono ?_;rintro e w3 ⟨rfl,M3,m3⟩;have G3:=G2.out.memC M3 m3;obtain ⟨u12,c12,f12⟩:=G3.stepsF;have c0:=(G3.cell 0 (u:=Xe 1) (λ r _ hn=>by rw [<-HNX.out,<-hn];rfl)).1;replace c0:w3.cell? ⟨q.k,0,none⟩=some (.func (.func 88) #[] #[]):=c0;have hlt:=G3.lt;have G3:=Zh_ G3;clear M3 m3 c11 hM G2;go_wp2_with fail;have G6:=Zh_ (G3.out.setS (wrap64 (u12+1)));have hn:=HNX.out;have hp:=HP.out;have ok:=OK.out;refine (draws_c G6.out).mono ?_;rintro e w7 ⟨rfl,R7⟩;obtain ⟨v,hv⟩:∃ v:Nat,v=0:=⟨_,rfl⟩;have hs:x.step s.opened v=({x with ticket:=s.opened.got 0,part:=2},s.opened.add 0 1):=by unfold Z2.step;rw [hp];simp
  obtain ⟨y,hy⟩:∃ y,y={x with ticket:=s.opened.got 0,part:=2}:=⟨_,rfl⟩;obtain ⟨s',hs'⟩:∃ z,z=s.opened.add 0 1:=⟨_,rfl⟩;rw [<-hy,<-hs'] at R7;have HV:=Zh_ (show (x.step s.opened v).1=y from by rw [hs,hy]);have HV2:=Zh_ (show (x.step s.opened v).2=s' from by rw [hs,hs']);clear hs hy hs' hv;obtain ⟨n7,G7⟩:=R7.go;have c11:=(G7.cell 11 (u:=.int .i64 y.part) (λ _ _ _=>rfl)).1;have R7:=Zh_ R7;clear G7 c12 f12 c0 hlt hn hp ok;go_wp2;go_ret2;exact ⟨v,by rw [HV.out];rfl,by rw [HV.out,HV2.out];exact R7.out⟩
theorem wstep_2 (h:Zx w q x) (hM:Zi 137 w a b s) (hnx:q.nx=Xe 2) (ok:Kx x) (hp:x.part=2) (hlen:Zw x.c0 x.c1<=s.ws.length):Calls Tryz.prog 229 #[.pointer (some ⟨q.k,0,none⟩),.pointer (some ⟨a,0,none⟩)] w (Jq w q a b x s):=by
 have H0:=Xc.same h hM;have c6:=(H0.cell 6 (u:=.int .i64 (Zw x.c0 x.c1)) (λ _ _ _=>rfl)).1;have hlt:=H0.lt;have dl:decide ((s.ws.length:Int) < Zw x.c0 x.c1)=false:=decide_eq_false (by omega);have H:=Zh_ H0;have hM:=hM.drew;clear H0 h hlen;obtain ⟨p5,hp5⟩:∃ z,z=Zw x.c0 x.c1:=⟨_,rfl⟩;rw [<-hp5] at c6 dl;have HP5:=Zh_ hp5;clear hp5;go_enter func229,ntmps229;go_upto_region 1 with fail
 go_cut [13] (λ A wx=>A=.bool false/\Xc w q a b x q.nx s wx)
 case first=>
  go_region_held3 (λ wx=>wx.cell? ⟨q.k,6,none⟩=some (.int .i64 p5)) (first|exact c6|exact d6)
   (first|(go_at_call 61;refine (J5 hM).mono ?_;rintro e w2 ⟨rfl,M2,m2⟩;have G2:=Zh_ (H.out.drew.memC M2 m2);have d6:=(G2.out.cell 6 (u:=.int .i64 p5) (λ _ _ _=>by rw [HP5.out];rfl)).1))
  all_goals
   go_wp2_with fail;go_meet;exact ⟨rfl,G2.out⟩
 case rest=>
  obtain ⟨rfl,G2⟩:=hcut;clear c6 hM hlt dl;have c11:=(G2.cell 11 (u:=.int .i64 x.part) (λ _ _ _=>rfl)).1;rw [hp] at c11;have hlt:=G2.lt;have hM:=G2.memA;have G2:=Zh_ G2;have OK:=Zh_ ok;have HP:=Zh_ hp;have HNX:=Zh_ hnx;clear ok hp hnx H;go_wp2_with fail;refine (Ug hM).mono ?_;rintro e w3 ⟨rfl,M3,m3⟩;have G3:=G2.out.memC M3 m3;obtain ⟨u12,c12,f12⟩:=G3.stepsF;have c0:=(G3.cell 0 (u:=Xe 2) (λ r _ hn=>by rw [<-HNX.out,<-hn];rfl)).1;replace c0:w3.cell? ⟨q.k,0,none⟩=some (.func (.func 89) #[] #[]):=c0;have hlt:=G3.lt;have G3:=Zh_ G3;clear M3 m3 c11 hM G2;go_wp2_with fail;have G6:=Zh_ (G3.out.setS (wrap64 (u12+1)));have hn:=HNX.out;have hp:=HP.out;have ok:=OK.out;refine (waits_c G6.out hn hp).mono ?_;rintro e w7 ⟨rfl,R7⟩;obtain ⟨v,hv⟩:∃ v:Nat,v=0:=⟨_,rfl⟩;have hs:x.step s.opened v=({x with part:=if s.opened.look 1 x.ticket=true then 3 else 2},s.opened.load 1):=by unfold Z2.step;rw [hp];simp
  obtain ⟨y,hy⟩:∃ y,y={x with part:=if s.opened.look 1 x.ticket=true then 3 else 2}:=⟨_,rfl⟩;obtain ⟨s',hs'⟩:∃ z,z=s.opened.load 1:=⟨_,rfl⟩;rw [<-hy,<-hs'] at R7;have HV:=Zh_ (show (x.step s.opened v).1=y from by rw [hs,hy]);have HV2:=Zh_ (show (x.step s.opened v).2=s' from by rw [hs,hs']);clear hs hy hs' hv;obtain ⟨n7,G7⟩:=R7.go;have c11:=(G7.cell 11 (u:=.int .i64 y.part) (λ _ _ _=>rfl)).1;have R7:=Zh_ R7;clear G7 c12 f12 c0 hlt hn hp ok;go_wp2;go_ret2;exact ⟨v,by rw [HV.out];rfl,by rw [HV.out,HV2.out];exact R7.out⟩
theorem wstep_3 (h:Zx w q x) (hM:Zi 137 w a b s) (hnx:q.nx=Xe 3) (ok:Kx x) (hp:x.part=3) (hlen:Zw x.c0 x.c1<=s.ws.length):Calls Tryz.prog 229 #[.pointer (some ⟨q.k,0,none⟩),.pointer (some ⟨a,0,none⟩)] w (Jq w q a b x s):=by
 have H0:=Xc.same h hM;have c6:=(H0.cell 6 (u:=.int .i64 (Zw x.c0 x.c1)) (λ _ _ _=>rfl)).1;have hlt:=H0.lt;have dl:decide ((s.ws.length:Int) < Zw x.c0 x.c1)=false:=decide_eq_false (by omega);have H:=Zh_ H0;have hM:=hM.drew;clear H0 h hlen;obtain ⟨p5,hp5⟩:∃ z,z=Zw x.c0 x.c1:=⟨_,rfl⟩;rw [<-hp5] at c6 dl;have HP5:=Zh_ hp5;clear hp5;go_enter func229,ntmps229;go_upto_region 1 with fail
 go_cut [13] (λ A wx=>A=.bool false/\Xc w q a b x q.nx s wx)
 case first=>
  go_region_held3 (λ wx=>wx.cell? ⟨q.k,6,none⟩=some (.int .i64 p5)) (first|exact c6|exact d6)
   (first|(go_at_call 61;refine (J5 hM).mono ?_;rintro e w2 ⟨rfl,M2,m2⟩;have G2:=Zh_ (H.out.drew.memC M2 m2);have d6:=(G2.out.cell 6 (u:=.int .i64 p5) (λ _ _ _=>by rw [HP5.out];rfl)).1))
  all_goals
   go_wp2_with fail;go_meet;exact ⟨rfl,G2.out⟩
 case rest=>
  obtain ⟨rfl,G2⟩:=hcut;clear c6 hM hlt dl;have c11:=(G2.cell 11 (u:=.int .i64 x.part) (λ _ _ _=>rfl)).1;rw [hp] at c11;have hlt:=G2.lt;have hM:=G2.memA;have G2:=Zh_ G2;have OK:=Zh_ ok;have HP:=Zh_ hp;have HNX:=Zh_ hnx;clear ok hp hnx H;go_wp2_with fail;refine (Ug hM).mono ?_;rintro e w3 ⟨rfl,M3,m3⟩;have G3:=G2.out.memC M3 m3;obtain ⟨u12,c12,f12⟩:=G3.stepsF;have c0:=(G3.cell 0 (u:=Xe 3) (λ r _ hn=>by rw [<-HNX.out,<-hn];rfl)).1;replace c0:w3.cell? ⟨q.k,0,none⟩=some (.func (.func 90) #[] #[]):=c0;have hlt:=G3.lt;have G3:=Zh_ G3;clear M3 m3 c11 hM G2;go_wp2_with fail;have G6:=Zh_ (G3.out.setS (wrap64 (u12+1)));have hn:=HNX.out;have hp:=HP.out;have ok:=OK.out;refine (marks_c G6.out).mono ?_;rintro e w7 ⟨rfl,R7⟩;obtain ⟨v,hv⟩:∃ v:Nat,v=0:=⟨_,rfl⟩;have hs:x.step s.opened v=({x with stamp:=s.opened.got 2,part:=4},s.opened.load 2):=by unfold Z2.step;rw [hp];simp
  obtain ⟨y,hy⟩:∃ y,y={x with stamp:=s.opened.got 2,part:=4}:=⟨_,rfl⟩;obtain ⟨s',hs'⟩:∃ z,z=s.opened.load 2:=⟨_,rfl⟩;rw [<-hy,<-hs'] at R7;have HV:=Zh_ (show (x.step s.opened v).1=y from by rw [hs,hy]);have HV2:=Zh_ (show (x.step s.opened v).2=s' from by rw [hs,hs']);clear hs hy hs' hv;obtain ⟨n7,G7⟩:=R7.go;have c11:=(G7.cell 11 (u:=.int .i64 y.part) (λ _ _ _=>rfl)).1;have R7:=Zh_ R7;clear G7 c12 f12 c0 hlt hn hp ok;go_wp2;go_ret2;exact ⟨v,by rw [HV.out];rfl,by rw [HV.out,HV2.out];exact R7.out⟩
theorem wstep_4 (h:Zx w q x) (hM:Zi 137 w a b s) (hnx:q.nx=Xe 4) (ok:Kx x) (hp:x.part=4) (hlen:Zw x.c0 x.c1<=s.ws.length):Calls Tryz.prog 229 #[.pointer (some ⟨q.k,0,none⟩),.pointer (some ⟨a,0,none⟩)] w (Jq w q a b x s):=by
 have H0:=Xc.same h hM;have c6:=(H0.cell 6 (u:=.int .i64 (Zw x.c0 x.c1)) (λ _ _ _=>rfl)).1;have hlt:=H0.lt;have dl:decide ((s.ws.length:Int) < Zw x.c0 x.c1)=false:=decide_eq_false (by omega);have H:=Zh_ H0;have hM:=hM.drew;clear H0 h hlen;obtain ⟨p5,hp5⟩:∃ z,z=Zw x.c0 x.c1:=⟨_,rfl⟩;rw [<-hp5] at c6 dl;have HP5:=Zh_ hp5;clear hp5;go_enter func229,ntmps229;go_upto_region 1 with fail
 go_cut [13] (λ A wx=>A=.bool false/\Xc w q a b x q.nx s wx)
 case first=>
  go_region_held3 (λ wx=>wx.cell? ⟨q.k,6,none⟩=some (.int .i64 p5)) (first|exact c6|exact d6)
   (first|(go_at_call 61;refine (J5 hM).mono ?_;rintro e w2 ⟨rfl,M2,m2⟩;have G2:=Zh_ (H.out.drew.memC M2 m2);have d6:=(G2.out.cell 6 (u:=.int .i64 p5) (λ _ _ _=>by rw [HP5.out];rfl)).1))
  all_goals
   go_wp2_with fail;go_meet;exact ⟨rfl,G2.out⟩
 case rest=>
  obtain ⟨rfl,G2⟩:=hcut;clear c6 hM hlt dl;have c11:=(G2.cell 11 (u:=.int .i64 x.part) (λ _ _ _=>rfl)).1;rw [hp] at c11;have hlt:=G2.lt;have hM:=G2.memA;have G2:=Zh_ G2;have OK:=Zh_ ok;have HP:=Zh_ hp;have HNX:=Zh_ hnx;clear ok hp hnx H;go_wp2_with fail;refine (Ug hM).mono ?_;rintro e w3 ⟨rfl,M3,m3⟩;have G3:=G2.out.memC M3 m3;obtain ⟨u12,c12,f12⟩:=G3.stepsF;have c0:=(G3.cell 0 (u:=Xe 4) (λ r _ hn=>by rw [<-HNX.out,<-hn];rfl)).1;replace c0:w3.cell? ⟨q.k,0,none⟩=some (.func (.func 91) #[] #[]):=c0;have hlt:=G3.lt;have G3:=Zh_ G3;clear M3 m3 c11 hM G2;go_wp2_with fail;have G6:=Zh_ (G3.out.setS (wrap64 (u12+1)));have hn:=HNX.out;have hp:=HP.out;have ok:=OK.out;refine (runs_c G6.out hn hp ok.m (by have:=ok.was;omega)).mono ?_;rintro e w7 ⟨v,rfl,R7⟩;have hs:x.step s.opened v=x.runs s.opened v:=by unfold Z2.step;rw [hp];simp
  obtain ⟨y,hy⟩:∃ y,y=(x.runs s.opened v).1:=⟨_,rfl⟩;obtain ⟨s',hs'⟩:∃ z,z=(x.runs s.opened v).2:=⟨_,rfl⟩;rw [<-hy,<-hs'] at R7;have HV:=Zh_ (show (x.step s.opened v).1=y from by rw [hs,hy]);have HV2:=Zh_ (show (x.step s.opened v).2=s' from by rw [hs,hs']);clear hs hy hs';obtain ⟨n7,G7⟩:=R7.go;have c11:=(G7.cell 11 (u:=.int .i64 y.part) (λ _ _ _=>rfl)).1;have R7:=Zh_ R7;clear G7 c12 f12 c0 hlt hn hp ok;go_wp2;go_ret2;exact ⟨v,by rw [HV.out];rfl,by rw [HV.out,HV2.out];exact R7.out⟩
theorem wstep_5 (h:Zx w q x) (hM:Zi 137 w a b s) (hnx:q.nx=Xe 5) (ok:Kx x) (hp:x.part=5) (hlen:Zw x.c0 x.c1<=s.ws.length):Calls Tryz.prog 229 #[.pointer (some ⟨q.k,0,none⟩),.pointer (some ⟨a,0,none⟩)] w (Jq w q a b x s):=by
 obtain ⟨c,hc,hci⟩:=ok.scan hp;have H0:=Xc.same h hM;have c6:=(H0.cell 6 (u:=.int .i64 (Zw x.c0 x.c1)) (λ _ _ _=>rfl)).1;have hlt:=H0.lt;have dl:decide ((s.ws.length:Int) < Zw x.c0 x.c1)=false:=decide_eq_false (by omega);have H:=Zh_ H0;have hM:=hM.drew;clear H0 h hlen;obtain ⟨p5,hp5⟩:∃ z,z=Zw x.c0 x.c1:=⟨_,rfl⟩;rw [<-hp5] at c6 dl;have HP5:=Zh_ hp5;clear hp5;go_enter func229,ntmps229;go_upto_region 1 with fail
 go_cut [13] (λ A wx=>A=.bool false/\Xc w q a b x q.nx s wx)
 case first=>
  go_region_held3 (λ wx=>wx.cell? ⟨q.k,6,none⟩=some (.int .i64 p5)) (first|exact c6|exact d6)
   (first|(go_at_call 61;refine (J5 hM).mono ?_;rintro e w2 ⟨rfl,M2,m2⟩;have G2:=Zh_ (H.out.drew.memC M2 m2);have d6:=(G2.out.cell 6 (u:=.int .i64 p5) (λ _ _ _=>by rw [HP5.out];rfl)).1))
  all_goals
   go_wp2_with fail;go_meet;exact ⟨rfl,G2.out⟩
 case rest=>
  obtain ⟨rfl,G2⟩:=hcut;clear c6 hM hlt dl;have c11:=(G2.cell 11 (u:=.int .i64 x.part) (λ _ _ _=>rfl)).1;rw [hp] at c11;have hlt:=G2.lt;have hM:=G2.memA;have G2:=Zh_ G2;have OK:=Zh_ ok;have HP:=Zh_ hp;have HNX:=Zh_ hnx;clear ok hp hnx H;go_wp2_with fail;refine (Ug hM).mono ?_;rintro e w3 ⟨rfl,M3,m3⟩;have G3:=G2.out.memC M3 m3;obtain ⟨u12,c12,f12⟩:=G3.stepsF;have c0:=(G3.cell 0 (u:=Xe 5) (λ r _ hn=>by rw [<-HNX.out,<-hn];rfl)).1;replace c0:w3.cell? ⟨q.k,0,none⟩=some (.func (.func 92) #[] #[]):=c0;have hlt:=G3.lt;have G3:=Zh_ G3;clear M3 m3 c11 hM G2;go_wp2_with fail;have G6:=Zh_ (G3.out.setS (wrap64 (u12+1)));have hn:=HNX.out;have hp:=HP.out;have ok:=OK.out;refine (scans_c G6.out hn hp hc hci (by have:=ok.was;omega)).mono ?_;rintro e w7 ⟨rfl,R7⟩;obtain ⟨v,hv⟩:∃ v:Nat,v=0:=⟨_,rfl⟩;have hs:x.step s.opened v=((x.scans s.opened).1,(x.scans s.opened).2):=by unfold Z2.step;rw [hp];simp
  obtain ⟨y,hy⟩:∃ y,y=(x.scans s.opened).1:=⟨_,rfl⟩;obtain ⟨s',hs'⟩:∃ z,z=(x.scans s.opened).2:=⟨_,rfl⟩;rw [<-hy,<-hs'] at R7;have HV:=Zh_ (show (x.step s.opened v).1=y from by rw [hs,hy]);have HV2:=Zh_ (show (x.step s.opened v).2=s' from by rw [hs,hs']);clear hs hy hs' hv;obtain ⟨n7,G7⟩:=R7.go;have c11:=(G7.cell 11 (u:=.int .i64 y.part) (λ _ _ _=>rfl)).1;have R7:=Zh_ R7;clear G7 c12 f12 c0 hlt hn hp ok;go_wp2;go_ret2;exact ⟨v,by rw [HV.out];rfl,by rw [HV.out,HV2.out];exact R7.out⟩
theorem wstep_6 (h:Zx w q x) (hM:Zi 137 w a b s) (hnx:q.nx=Xe 6) (ok:Kx x) (hp:x.part=6) (hlen:Zw x.c0 x.c1<=s.ws.length):Calls Tryz.prog 229 #[.pointer (some ⟨q.k,0,none⟩),.pointer (some ⟨a,0,none⟩)] w (Jq w q a b x s):=by
 obtain ⟨hw,he,hwi⟩:=ok.wr hp;have H0:=Xc.same h hM;have c6:=(H0.cell 6 (u:=.int .i64 (Zw x.c0 x.c1)) (λ _ _ _=>rfl)).1;have hlt:=H0.lt;have dl:decide ((s.ws.length:Int) < Zw x.c0 x.c1)=false:=decide_eq_false (by omega);have H:=Zh_ H0;have hM:=hM.drew;clear H0 h hlen;obtain ⟨p5,hp5⟩:∃ z,z=Zw x.c0 x.c1:=⟨_,rfl⟩;rw [<-hp5] at c6 dl;have HP5:=Zh_ hp5;clear hp5;go_enter func229,ntmps229;go_upto_region 1 with fail
 go_cut [13] (λ A wx=>A=.bool false/\Xc w q a b x q.nx s wx)
 case first=>
  go_region_held3 (λ wx=>wx.cell? ⟨q.k,6,none⟩=some (.int .i64 p5)) (first|exact c6|exact d6)
   (first|(go_at_call 61;refine (J5 hM).mono ?_;rintro e w2 ⟨rfl,M2,m2⟩;have G2:=Zh_ (H.out.drew.memC M2 m2);have d6:=(G2.out.cell 6 (u:=.int .i64 p5) (λ _ _ _=>by rw [HP5.out];rfl)).1))
  all_goals
   go_wp2_with fail;go_meet;exact ⟨rfl,G2.out⟩
 case rest=>
  obtain ⟨rfl,G2⟩:=hcut;clear c6 hM hlt dl;have c11:=(G2.cell 11 (u:=.int .i64 x.part) (λ _ _ _=>rfl)).1;rw [hp] at c11;have hlt:=G2.lt;have hM:=G2.memA;have G2:=Zh_ G2;have OK:=Zh_ ok;have HP:=Zh_ hp;have HNX:=Zh_ hnx;clear ok hp hnx H;go_wp2_with fail;refine (Ug hM).mono ?_;rintro e w3 ⟨rfl,M3,m3⟩;have G3:=G2.out.memC M3 m3;obtain ⟨u12,c12,f12⟩:=G3.stepsF;have c0:=(G3.cell 0 (u:=Xe 6) (λ r _ hn=>by rw [<-HNX.out,<-hn];rfl)).1;replace c0:w3.cell? ⟨q.k,0,none⟩=some (.func (.func 93) #[] #[]):=c0;have hlt:=G3.lt;have G3:=Zh_ G3;clear M3 m3 c11 hM G2;go_wp2_with fail;have G6:=Zh_ (G3.out.setS (wrap64 (u12+1)));have hn:=HNX.out;have hp:=HP.out;have ok:=OK.out;refine (St G6.out hn hp hw he (by have:=ok.was;omega) ok.m.order hwi).mono ?_;rintro e w7 ⟨rfl,R7⟩;obtain ⟨v,hv⟩:∃ v:Nat,v=0:=⟨_,rfl⟩;have hs:x.step s.opened v=((x.writes s.opened).1,(x.writes s.opened).2):=by unfold Z2.step;rw [hp];simp
  obtain ⟨y,hy⟩:∃ y,y=(x.writes s.opened).1:=⟨_,rfl⟩;obtain ⟨s',hs'⟩:∃ z,z=(x.writes s.opened).2:=⟨_,rfl⟩;rw [<-hy,<-hs'] at R7;have HV:=Zh_ (show (x.step s.opened v).1=y from by rw [hs,hy]);have HV2:=Zh_ (show (x.step s.opened v).2=s' from by rw [hs,hs']);clear hs hy hs' hv;obtain ⟨n7,G7⟩:=R7.go;have c11:=(G7.cell 11 (u:=.int .i64 y.part) (λ _ _ _=>rfl)).1;have R7:=Zh_ R7;clear G7 c12 f12 c0 hlt hn hp ok;go_wp2;go_ret2;exact ⟨v,by rw [HV.out];rfl,by rw [HV.out,HV2.out];exact R7.out⟩
theorem wstep_7 (h:Zx w q x) (hM:Zi 137 w a b s) (hnx:q.nx=Xe 7) (ok:Kx x) (hp:x.part=7) (hlen:Zw x.c0 x.c1<=s.ws.length):Calls Tryz.prog 229 #[.pointer (some ⟨q.k,0,none⟩),.pointer (some ⟨a,0,none⟩)] w (Jq w q a b x s):=by
 have H0:=Xc.same h hM;have c6:=(H0.cell 6 (u:=.int .i64 (Zw x.c0 x.c1)) (λ _ _ _=>rfl)).1;have hlt:=H0.lt;have dl:decide ((s.ws.length:Int) < Zw x.c0 x.c1)=false:=decide_eq_false (by omega);have H:=Zh_ H0;have hM:=hM.drew;clear H0 h hlen;obtain ⟨p5,hp5⟩:∃ z,z=Zw x.c0 x.c1:=⟨_,rfl⟩;rw [<-hp5] at c6 dl;have HP5:=Zh_ hp5;clear hp5;go_enter func229,ntmps229;go_upto_region 1 with fail
 go_cut [13] (λ A wx=>A=.bool false/\Xc w q a b x q.nx s wx)
 case first=>
  go_region_held3 (λ wx=>wx.cell? ⟨q.k,6,none⟩=some (.int .i64 p5)) (first|exact c6|exact d6)
   (first|(go_at_call 61;refine (J5 hM).mono ?_;rintro e w2 ⟨rfl,M2,m2⟩;have G2:=Zh_ (H.out.drew.memC M2 m2);have d6:=(G2.out.cell 6 (u:=.int .i64 p5) (λ _ _ _=>by rw [HP5.out];rfl)).1))
  all_goals
   go_wp2_with fail;go_meet;exact ⟨rfl,G2.out⟩
 case rest=>
  obtain ⟨rfl,G2⟩:=hcut;clear c6 hM hlt dl;have c11:=(G2.cell 11 (u:=.int .i64 x.part) (λ _ _ _=>rfl)).1;rw [hp] at c11;have hlt:=G2.lt;have hM:=G2.memA;have G2:=Zh_ G2;have OK:=Zh_ ok;have HP:=Zh_ hp;have HNX:=Zh_ hnx;clear ok hp hnx H;go_wp2_with fail;refine (Ug hM).mono ?_;rintro e w3 ⟨rfl,M3,m3⟩;have G3:=G2.out.memC M3 m3;obtain ⟨u12,c12,f12⟩:=G3.stepsF;have c0:=(G3.cell 0 (u:=Xe 7) (λ r _ hn=>by rw [<-HNX.out,<-hn];rfl)).1;replace c0:w3.cell? ⟨q.k,0,none⟩=some (.func (.func 94) #[] #[]):=c0;have hlt:=G3.lt;have G3:=Zh_ G3;clear M3 m3 c11 hM G2;go_wp2_with fail;have G6:=Zh_ (G3.out.setS (wrap64 (u12+1)));have hn:=HNX.out;have hp:=HP.out;have ok:=OK.out;refine (Mt G6.out).mono ?_;rintro e w7 ⟨rfl,R7⟩;obtain ⟨v,hv⟩:∃ v:Nat,v=0:=⟨_,rfl⟩;have hs:x.step s.opened v=({x with number:=wrap64 (u64 (x.stamp+1)),part:=8},s.opened.store 2 (u64 (x.stamp+1))):=by unfold Z2.step;rw [hp];simp
  obtain ⟨y,hy⟩:∃ y,y={x with number:=wrap64 (u64 (x.stamp+1)),part:=8}:=⟨_,rfl⟩;obtain ⟨s',hs'⟩:∃ z,z=s.opened.store 2 (u64 (x.stamp+1)):=⟨_,rfl⟩;rw [<-hy,<-hs'] at R7;have HV:=Zh_ (show (x.step s.opened v).1=y from by rw [hs,hy]);have HV2:=Zh_ (show (x.step s.opened v).2=s' from by rw [hs,hs']);clear hs hy hs' hv;obtain ⟨n7,G7⟩:=R7.go;have c11:=(G7.cell 11 (u:=.int .i64 y.part) (λ _ _ _=>rfl)).1;have R7:=Zh_ R7;clear G7 c12 f12 c0 hlt hn hp ok;go_wp2;go_ret2;exact ⟨v,by rw [HV.out];rfl,by rw [HV.out,HV2.out];exact R7.out⟩
theorem wstep_8 (h:Zx w q x) (hM:Zi 137 w a b s) (hnx:q.nx=Xe 8) (ok:Kx x) (hp:x.part=8) (hlen:Zw x.c0 x.c1<=s.ws.length):Calls Tryz.prog 229 #[.pointer (some ⟨q.k,0,none⟩),.pointer (some ⟨a,0,none⟩)] w (Jq w q a b x s):=by
 have H0:=Xc.same h hM;have c6:=(H0.cell 6 (u:=.int .i64 (Zw x.c0 x.c1)) (λ _ _ _=>rfl)).1;have hlt:=H0.lt;have dl:decide ((s.ws.length:Int) < Zw x.c0 x.c1)=false:=decide_eq_false (by omega);have H:=Zh_ H0;have hM:=hM.drew;clear H0 h hlen;obtain ⟨p5,hp5⟩:∃ z,z=Zw x.c0 x.c1:=⟨_,rfl⟩;rw [<-hp5] at c6 dl;have HP5:=Zh_ hp5;clear hp5;go_enter func229,ntmps229;go_upto_region 1 with fail
 go_cut [13] (λ A wx=>A=.bool false/\Xc w q a b x q.nx s wx)
 case first=>
  go_region_held3 (λ wx=>wx.cell? ⟨q.k,6,none⟩=some (.int .i64 p5)) (first|exact c6|exact d6)
   (first|(go_at_call 61;refine (J5 hM).mono ?_;rintro e w2 ⟨rfl,M2,m2⟩;have G2:=Zh_ (H.out.drew.memC M2 m2);have d6:=(G2.out.cell 6 (u:=.int .i64 p5) (λ _ _ _=>by rw [HP5.out];rfl)).1))
  all_goals
   go_wp2_with fail;go_meet;exact ⟨rfl,G2.out⟩
 case rest=>
  obtain ⟨rfl,G2⟩:=hcut;clear c6 hM hlt dl;have c11:=(G2.cell 11 (u:=.int .i64 x.part) (λ _ _ _=>rfl)).1;rw [hp] at c11;have hlt:=G2.lt;have hM:=G2.memA;have G2:=Zh_ G2;have OK:=Zh_ ok;have HP:=Zh_ hp;have HNX:=Zh_ hnx;clear ok hp hnx H;go_wp2_with fail;refine (Ug hM).mono ?_;rintro e w3 ⟨rfl,M3,m3⟩;have G3:=G2.out.memC M3 m3;obtain ⟨u12,c12,f12⟩:=G3.stepsF;have c0:=(G3.cell 0 (u:=Xe 8) (λ r _ hn=>by rw [<-HNX.out,<-hn];rfl)).1;replace c0:w3.cell? ⟨q.k,0,none⟩=some (.func (.func 95) #[] #[]):=c0;have hlt:=G3.lt;have G3:=Zh_ G3;clear M3 m3 c11 hM G2;go_wp2_with fail;have G6:=Zh_ (G3.out.setS (wrap64 (u12+1)));have hn:=HNX.out;have hp:=HP.out;have ok:=OK.out;refine (passes_c G6.out).mono ?_;rintro e w7 ⟨rfl,R7⟩;obtain ⟨v,hv⟩:∃ v:Nat,v=0:=⟨_,rfl⟩;have hs:x.step s.opened v=({x with part:=9},s.opened.store 1 (u64 (x.ticket+1))):=by unfold Z2.step;rw [hp];simp
  obtain ⟨y,hy⟩:∃ y,y={x with part:=9}:=⟨_,rfl⟩;obtain ⟨s',hs'⟩:∃ z,z=s.opened.store 1 (u64 (x.ticket+1)):=⟨_,rfl⟩;rw [<-hy,<-hs'] at R7;have HV:=Zh_ (show (x.step s.opened v).1=y from by rw [hs,hy]);have HV2:=Zh_ (show (x.step s.opened v).2=s' from by rw [hs,hs']);clear hs hy hs' hv;obtain ⟨n7,G7⟩:=R7.go;have c11:=(G7.cell 11 (u:=.int .i64 y.part) (λ _ _ _=>rfl)).1;have R7:=Zh_ R7;clear G7 c12 f12 c0 hlt hn hp ok;go_wp2;go_ret2;exact ⟨v,by rw [HV.out];rfl,by rw [HV.out,HV2.out];exact R7.out⟩
theorem Sn (h:Zx w q x) (hM:Zi 137 w a b s) (hnx:q.nx=Xe x.part) (ok:Kx x) (hlen:Zw x.c0 x.c1<=s.ws.length):Calls Tryz.prog 229 #[.pointer (some ⟨q.k,0,none⟩),.pointer (some ⟨a,0,none⟩)] w (Jq w q a b x s):=by
 have hh:x.part=1\/x.part=2\/x.part=3\/x.part=4\/x.part=5\/x.part=6\/x.part=7\/x.part=8:=by have:=ok.p1;have:=ok.p8;omega
 rcases hh with hp|hp|hp|hp|hp|hp|hp|hp
 ·exact wstep_1 h hM (by rw [hnx,hp]) ok hp hlen
 ·exact wstep_2 h hM (by rw [hnx,hp]) ok hp hlen
 ·exact wstep_3 h hM (by rw [hnx,hp]) ok hp hlen
 ·exact wstep_4 h hM (by rw [hnx,hp]) ok hp hlen
 ·exact wstep_5 h hM (by rw [hnx,hp]) ok hp hlen
 ·exact wstep_6 h hM (by rw [hnx,hp]) ok hp hlen
 ·exact wstep_7 h hM (by rw [hnx,hp]) ok hp hlen
 ·exact wstep_8 h hM (by rw [hnx,hp]) ok hp hlen
end
end Go.Proofs.YtkhonmhnchdpkaaGreat
