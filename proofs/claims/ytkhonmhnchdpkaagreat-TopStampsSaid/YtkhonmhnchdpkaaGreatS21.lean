/- A part of the proof; no condition. -/
import Derived.Test.YtkhonmhnchdpkaaGreatS20
set_option maxRecDepth 100000
set_option maxHeartbeats 40000000
namespace Go.Proofs.YtkhonmhnchdpkaaGreat
open Go.RowKit _root_.Go.Proofs.Tryz
section
attribute [local go_sem] Zi
variable {w w' w0 w1 w2:World} {p p':MP} {q q':RP} {x x':Yk} {m:Zl} {a b:Nat} {s s':Zj} {S:List Nat} {r r':Y6}
structure Mz (x:Yk):Prop where
 p1:1≤x.part
 p3:x.part≤3
 m:Yl x.m
 com:x.com.Inv
 read:∀ r,x.read=some r→r.Inv∧x.m.waits=true
def Nd (w:World) (q:RP) (a b:Nat) (x:Yk) (s:Zj) (e:Ending) (w':World):Prop:=
 ∃ v,e=.returned (.tuple #[.bool ((x.step s.opened v).1.part==4),.int .i64 0])∧Qi w q a b (x.step s.opened v).1 (x.step s.opened v).2 w'
theorem rstep_1 (h:Z9 w q x) (hM:Zh 137 w a b s) (ok:Mz x) (hp:x.part=1) (hlen:Zw x.c0 x.c1≤s.ws.length):Calls Tryz.prog 234 #[.pointer (some ⟨q.k,0,none⟩),.pointer (some ⟨a,0,none⟩)] w (Nd w q a b x s):=by
 have H0:=Qi.same h hM
 have c5:=(H0.cell 5 (u:=.int .i64 (Zw x.c0 x.c1)) (fun _ _ _=>rfl)).1
 have hlt:=H0.lt
 have dl:decide ((s.ws.length:Int) < Zw x.c0 x.c1)=false:=decide_eq_false (by omega)
 have H:=Zh_ H0
 have hM:=hM.drew
 clear H0 h hlen
 obtain ⟨p5,hp5⟩:∃ z,z=Zw x.c0 x.c1:=⟨_,rfl⟩
 rw [←hp5] at c5 dl
 have HP5:=Zh_ hp5
 clear hp5
 go_enter func234,ntmps234
 go_upto_region 1 with fail
 go_cut [16] (fun A wx=>A=.bool false∧Qi w q a b x s wx)
 case first=>
  go_region_held3 (fun wx=>wx.cell? ⟨q.k,5,none⟩=some (.int .i64 p5)) (first|exact c5|exact d5)
   (first|(go_at_call 61;refine (Jz hM).mono ?_;rintro e w2 ⟨rfl,M2,m2⟩;have G2:=Zh_ (H.out.drew.memC M2 m2);have d5:=(G2.out.cell 5 (u:=.int .i64 p5) (fun _ _ _=>by rw [HP5.out];rfl)).1))
  all_goals
   go_wp2_with fail
   go_meet
   exact ⟨rfl,G2.out⟩
 case rest=>
  obtain ⟨rfl,G2⟩:=hcut
  clear c5 hM hlt dl
  have c9:=(G2.cell 9 (u:=.int .i64 x.part) (fun _ _ _=>rfl)).1
  rw [hp] at c9
  have hlt:=G2.lt
  have hM:=G2.memA
  have G2:=Zh_ G2
  have OK:=Zh_ ok
  have HP:=Zh_ hp
  clear ok hp H
  go_wp2_with fail
  refine (Uf hM).mono ?_;rintro e w3 ⟨rfl,M3,m3⟩
  have G3:=G2.out.memC M3 m3
  obtain ⟨u10,c10,f10⟩:=G3.stepsF
  have c9:=(G3.cell 9 (u:=.int .i64 x.part) (fun _ _ _=>rfl)).1
  have f9:=(G3.cell 9 (u:=.int .i64 x.part) (fun _ _ _=>rfl)).2
  rw [HP.out] at c9
  have c12:=(G3.cell 12 (u:=.pointer (some ⟨q.cm,0,none⟩)) (fun r _ hc=>by rw [←hc];rfl)).1
  have hlt:=G3.lt
  have G6:=Zh_ (G3.setS (wrap64 (u10+1)))
  have G3:=Zh_ G3
  clear M3 m3 hM G2
  have hL:=Au (w:=w3.setCell ⟨q.k,10,none⟩ (.int .i64 (wrap64 (u10+1)))) G6.out.memA x.com OK.out.com G6.out.comA.1
  obtain ⟨v,hv⟩:∃ v:Nat,v=0:=⟨_,rfl⟩
  clear hv
  have hs:x.step s.opened v=({x with com:=x.com.next s.opened,part:=if x.com.over s.opened=true then 2 else 1},x.com.mem s.opened):=by unfold Yk.step;rw [HP.out];simp
  obtain ⟨z,hz⟩:∃ z,z=x.com.over s.opened:=⟨_,rfl⟩
  rw [←hz] at hL hs
  clear hz
  cases z
  ·have HV:=Zh_ (show (x.step s.opened v).1={x with com:=x.com.next s.opened} from by rw [hs];have:=HP.out;cases x;simp at this ⊢;exact this.symm)
   have HV2:=Zh_ (show (x.step s.opened v).2=x.com.mem s.opened from by rw [hs])
   clear hs
   go_wp2_with fail
   refine hL.mono ?_;rintro e w7 ⟨rfl,M7,k7,m7⟩
   have G7:=G6.out.comA.2 _ _ _ M7 k7 m7
   clear c9 f9 c10 f10 c12 M7 k7 m7 hL G3 G6
   have c9:=(G7.cell 9 (u:=.int .i64 x.part) (fun _ _ _=>rfl)).1
   rw [HP.out] at c9
   have hlt:=G7.lt
   have R7:=Zh_ G7
   clear G7
   go_wp2
   go_ret2
   exact ⟨v,by rw [HV.out];show _=Ending.returned (.tuple #[.bool (x.part==4),.int .i64 0]);rw [HP.out];rfl,by rw [HV.out,HV2.out];exact R7.out⟩
  ·have HV:=Zh_ (show (x.step s.opened v).1={x with com:=x.com.next s.opened,part:=2} from by rw [hs];rfl)
   have HV2:=Zh_ (show (x.step s.opened v).2=x.com.mem s.opened from by rw [hs])
   clear hs
   go_wp2_with fail
   refine hL.mono ?_;rintro e w7 ⟨rfl,M7,k7,m7⟩
   have G7:=G6.out.comA.2 _ _ _ M7 k7 m7
   clear c9 f9 c10 f10 c12 M7 k7 m7 hL G3 G6
   have c9:=(G7.cell 9 (u:=.int .i64 x.part) (fun _ _ _=>rfl)).1
   have f9:=(G7.cell 9 (u:=.int .i64 x.part) (fun _ _ _=>rfl)).2
   rw [HP.out] at c9
   have hlt:=G7.lt
   have R7:=Zh_ (Qi.setX (x':={x with com:=x.com.next s.opened,part:=2}) G7 9 (.int .i64 2) (fun _=>rfl) rfl rfl rfl rfl)
   clear G7
   go_wp2
   go_ret2
   exact ⟨v,by rw [HV.out];rfl,by rw [HV.out,HV2.out];exact R7.out⟩
theorem rstep_2 (h:Z9 w q x) (hM:Zh 137 w a b s) (ok:Mz x) (hp:x.part=2) (hlen:Zw x.c0 x.c1≤s.ws.length):Calls Tryz.prog 234 #[.pointer (some ⟨q.k,0,none⟩),.pointer (some ⟨a,0,none⟩)] w (Nd w q a b x s):=by
 have H0:=Qi.same h hM
 have c5:=(H0.cell 5 (u:=.int .i64 (Zw x.c0 x.c1)) (fun _ _ _=>rfl)).1
 have hlt:=H0.lt
 have dl:decide ((s.ws.length:Int) < Zw x.c0 x.c1)=false:=decide_eq_false (by omega)
 have H:=Zh_ H0
 have hM:=hM.drew
 clear H0 h hlen
 obtain ⟨p5,hp5⟩:∃ z,z=Zw x.c0 x.c1:=⟨_,rfl⟩
 rw [←hp5] at c5 dl
 have HP5:=Zh_ hp5
 clear hp5
 go_enter func234,ntmps234
 go_upto_region 1 with fail
 go_cut [16] (fun A wx=>A=.bool false∧Qi w q a b x s wx)
 case first=>
  go_region_held3 (fun wx=>wx.cell? ⟨q.k,5,none⟩=some (.int .i64 p5)) (first|exact c5|exact d5)
   (first|(go_at_call 61;refine (Jz hM).mono ?_;rintro e w2 ⟨rfl,M2,m2⟩;have G2:=Zh_ (H.out.drew.memC M2 m2);have d5:=(G2.out.cell 5 (u:=.int .i64 p5) (fun _ _ _=>by rw [HP5.out];rfl)).1))
  all_goals
   go_wp2_with fail
   go_meet
   exact ⟨rfl,G2.out⟩
 case rest=>
  obtain ⟨rfl,G2⟩:=hcut
  clear c5 hM hlt dl
  have c9:=(G2.cell 9 (u:=.int .i64 x.part) (fun _ _ _=>rfl)).1
  rw [hp] at c9
  have hlt:=G2.lt
  have hM:=G2.memA
  have G2:=Zh_ G2
  have OK:=Zh_ ok
  have HP:=Zh_ hp
  clear ok hp H
  go_wp2_with fail
  refine (Uf hM).mono ?_;rintro e w3 ⟨rfl,M3,m3⟩
  have G3:=G2.out.memC M3 m3
  obtain ⟨u10,c10,f10⟩:=G3.stepsF
  have c9:=(G3.cell 9 (u:=.int .i64 x.part) (fun _ _ _=>rfl)).1
  have f9:=(G3.cell 9 (u:=.int .i64 x.part) (fun _ _ _=>rfl)).2
  rw [HP.out] at c9
  have hlt:=G3.lt
  have G6:=Zh_ (G3.setS (wrap64 (u10+1)))
  have G3:=Zh_ G3
  clear M3 m3 hM G2
  go_wp2_with fail
  obtain ⟨v,hv⟩:∃ v:Nat,v=0:=⟨_,rfl⟩
  clear hv v
  have hrun:Calls Tryz.prog 238 #[.pointer (some ⟨q.k,0,none⟩),.pointer (some ⟨a,0,none⟩)] (w3.setCell ⟨q.k,10,none⟩ (.int .i64 (wrap64 (u10+1)))) (RRun w q a b x s.opened):=by
   rcases hr:x.read with _|r
   ·exact run_none G6.out hr HP.out OK.out.m
   ·exact run_some G6.out hr (OK.out.read r hr).1 OK.out.m (OK.out.read r hr).2
  refine hrun.mono ?_;rintro e w7 ⟨v,rfl,G7⟩
  clear hrun
  have hs:x.step s.opened v=x.run s.opened v:=by unfold Yk.step;rw [HP.out];simp
  obtain ⟨y,hy⟩:∃ y,y=(x.run s.opened v).1:=⟨_,rfl⟩
  obtain ⟨s',hs'⟩:∃ z,z=(x.run s.opened v).2:=⟨_,rfl⟩
  rw [←hy,←hs'] at G7
  have HV:=Zh_ (show (x.step s.opened v).1=y from by rw [hs,hy])
  have HV2:=Zh_ (show (x.step s.opened v).2=s' from by rw [hs,hs'])
  clear hs hy hs'
  have hlt:=G7.lt
  clear c9 f9 c10 f10 G6 G3
  have c9:=(G7.cell 9 (u:=.int .i64 y.part) (fun _ _ _=>rfl)).1
  have R7:=Zh_ G7
  clear G7
  go_wp2
  go_ret2
  exact ⟨v,by rw [HV.out];rfl,by rw [HV.out,HV2.out];exact R7.out⟩
theorem rstep_3 (h:Z9 w q x) (hM:Zh 137 w a b s) (ok:Mz x) (hp:x.part=3) (hlen:Zw x.c0 x.c1≤s.ws.length):Calls Tryz.prog 234 #[.pointer (some ⟨q.k,0,none⟩),.pointer (some ⟨a,0,none⟩)] w (Nd w q a b x s):=by
 have H0:=Qi.same h hM
 have c5:=(H0.cell 5 (u:=.int .i64 (Zw x.c0 x.c1)) (fun _ _ _=>rfl)).1
 have hlt:=H0.lt
 have dl:decide ((s.ws.length:Int) < Zw x.c0 x.c1)=false:=decide_eq_false (by omega)
 have H:=Zh_ H0
 have hM:=hM.drew
 clear H0 h hlen
 obtain ⟨p5,hp5⟩:∃ z,z=Zw x.c0 x.c1:=⟨_,rfl⟩
 rw [←hp5] at c5 dl
 have HP5:=Zh_ hp5
 clear hp5
 go_enter func234,ntmps234
 go_upto_region 1 with fail
 go_cut [16] (fun A wx=>A=.bool false∧Qi w q a b x s wx)
 case first=>
  go_region_held3 (fun wx=>wx.cell? ⟨q.k,5,none⟩=some (.int .i64 p5)) (first|exact c5|exact d5)
   (first|(go_at_call 61;refine (Jz hM).mono ?_;rintro e w2 ⟨rfl,M2,m2⟩;have G2:=Zh_ (H.out.drew.memC M2 m2);have d5:=(G2.out.cell 5 (u:=.int .i64 p5) (fun _ _ _=>by rw [HP5.out];rfl)).1))
  all_goals
   go_wp2_with fail
   go_meet
   exact ⟨rfl,G2.out⟩
 case rest=>
  obtain ⟨rfl,G2⟩:=hcut
  clear c5 hM hlt dl
  have c9:=(G2.cell 9 (u:=.int .i64 x.part) (fun _ _ _=>rfl)).1
  rw [hp] at c9
  have hlt:=G2.lt
  have hM:=G2.memA
  have G2:=Zh_ G2
  have OK:=Zh_ ok
  have HP:=Zh_ hp
  clear ok hp H
  go_wp2_with fail
  refine (Uf hM).mono ?_;rintro e w3 ⟨rfl,M3,m3⟩
  have G3:=G2.out.memC M3 m3
  obtain ⟨u10,c10,f10⟩:=G3.stepsF
  have c9:=(G3.cell 9 (u:=.int .i64 x.part) (fun _ _ _=>rfl)).1
  have f9:=(G3.cell 9 (u:=.int .i64 x.part) (fun _ _ _=>rfl)).2
  rw [HP.out] at c9
  have c0:=(G3.cell 0 (u:=.int .i64 0) (fun _ _ _=>rfl)).1
  have c1:=(G3.cell 1 (u:=.int .i64 1) (fun _ _ _=>rfl)).1
  have c2:=(G3.cell 2 (u:=.int .i64 2) (fun _ _ _=>rfl)).1
  have c3:=(G3.cell 3 (u:=.int .i64 3) (fun _ _ _=>rfl)).1
  have c4:=(G3.cell 4 (u:=.int .i64 (Yb x.c1)) (fun _ _ _=>rfl)).1
  have c5:=(G3.cell 5 (u:=.int .i64 (Zw x.c0 x.c1)) (fun _ _ _=>rfl)).1
  have c11:=(G3.cell 11 (u:=.int .i64 x.thread) (fun _ _ _=>rfl)).1
  have hlt:=G3.lt
  have G6:=Zh_ (G3.setS (wrap64 (u10+1)))
  have G3:=Zh_ G3
  clear M3 m3 hM G2
  obtain ⟨v,hv⟩:∃ v:Nat,v=0:=⟨_,rfl⟩
  clear hv
  have hs:x.step s.opened v=({x with part:=4},s.opened.leave 3 x.thread):=by unfold Yk.step;rw [HP.out];simp
  have HV:=Zh_ (show (x.step s.opened v).1={x with part:=4} from by rw [hs])
  have HV2:=Zh_ (show (x.step s.opened v).2=s.opened.leave 3 x.thread from by rw [hs])
  clear hs
  go_upto_region 15 with fail
  clear c0 c1 c2 c3 c4 c5 c11 c9 f9 c10 f10 hlt G3
  generalize w3.setCell ⟨q.k,10,none⟩ (.int .i64 (wrap64 (u10+1)))=w4 at *
  have c0:=(G6.out.cell 0 (u:=.int .i64 0) (fun _ _ _=>rfl)).1
  have c1:=(G6.out.cell 1 (u:=.int .i64 1) (fun _ _ _=>rfl)).1
  have c2:=(G6.out.cell 2 (u:=.int .i64 2) (fun _ _ _=>rfl)).1
  have c3:=(G6.out.cell 3 (u:=.int .i64 3) (fun _ _ _=>rfl)).1
  have c4:=(G6.out.cell 4 (u:=.int .i64 (Yb x.c1)) (fun _ _ _=>rfl)).1
  have c5:=(G6.out.cell 5 (u:=.int .i64 (Zw x.c0 x.c1)) (fun _ _ _=>rfl)).1
  have c11:=(G6.out.cell 11 (u:=.int .i64 x.thread) (fun _ _ _=>rfl)).1
  have hlt:=G6.out.lt
  have hL:=leave_c G6.out.memA.drew 0 1 2 3 (Yb x.c1) (Zw x.c0 x.c1) x.thread
  go_cut [72] (fun _ wx=>Qi w q a b x (s.opened.leave 3 x.thread) wx)
  case first=>
   go_region_held3 (fun wx=>wx.cell? ⟨q.k,0,none⟩=some (.int .i64 0)∧wx.cell? ⟨q.k,1,none⟩=some (.int .i64 1)∧wx.cell? ⟨q.k,2,none⟩=some (.int .i64 2)∧wx.cell? ⟨q.k,3,none⟩=some (.int .i64 3)∧wx.cell? ⟨q.k,4,none⟩=some (.int .i64 (Yb x.c1))∧wx.cell? ⟨q.k,5,none⟩=some (.int .i64 (Zw x.c0 x.c1))∧wx.cell? ⟨q.k,11,none⟩=some (.int .i64 x.thread)) (first|exact ⟨c0,c1,c2,c3,c4,c5,c11⟩|exact ⟨d0,d1,d2,d3,d4,d5,d11⟩)
    (first|(go_at_call 239;refine hL.mono ?_;rintro e w7 ⟨rfl,M7,m7⟩;have G7:=Zh_ (G6.out.drew.memC M7 m7);have d0:=(G7.out.cell 0 (u:=.int .i64 0) (fun _ _ _=>rfl)).1;have d1:=(G7.out.cell 1 (u:=.int .i64 1) (fun _ _ _=>rfl)).1;have d2:=(G7.out.cell 2 (u:=.int .i64 2) (fun _ _ _=>rfl)).1;have d3:=(G7.out.cell 3 (u:=.int .i64 3) (fun _ _ _=>rfl)).1;have d4:=(G7.out.cell 4 (u:=.int .i64 (Yb x.c1)) (fun _ _ _=>rfl)).1;have d5:=(G7.out.cell 5 (u:=.int .i64 (Zw x.c0 x.c1)) (fun _ _ _=>rfl)).1;have d11:=(G7.out.cell 11 (u:=.int .i64 x.thread) (fun _ _ _=>rfl)).1))
   all_goals
    go_wp2_with fail
    go_meet
    exact G7.out
  case rest=>
   clear c0 c1 c2 c3 c4 c5 c11 hlt hL G6
   have G7:=hcut
   clear hcut
   have c9:=(G7.cell 9 (u:=.int .i64 x.part) (fun _ _ _=>rfl)).1
   have f9:=(G7.cell 9 (u:=.int .i64 x.part) (fun _ _ _=>rfl)).2
   rw [HP.out] at c9
   have hlt:=G7.lt
   have R7:=Zh_ (Qi.setX (x':={x with part:=4}) G7 9 (.int .i64 4) (fun _=>rfl) rfl rfl rfl rfl)
   clear G7
   go_wp2
   go_ret2
   exact ⟨v,by rw [HV.out];rfl,by rw [HV.out,HV2.out];exact R7.out⟩
theorem Sr (h:Z9 w q x) (hM:Zh 137 w a b s) (ok:Mz x) (hlen:Zw x.c0 x.c1≤s.ws.length):Calls Tryz.prog 234 #[.pointer (some ⟨q.k,0,none⟩),.pointer (some ⟨a,0,none⟩)] w (Nd w q a b x s):=by
 have hh:x.part=1∨x.part=2∨x.part=3:=by have:=ok.p1;have:=ok.p3;omega
 rcases hh with hp|hp|hp
 ·exact rstep_1 h hM ok hp hlen
 ·exact rstep_2 h hM ok hp hlen
 ·exact rstep_3 h hM ok hp hlen
end
end Go.Proofs.YtkhonmhnchdpkaaGreat
