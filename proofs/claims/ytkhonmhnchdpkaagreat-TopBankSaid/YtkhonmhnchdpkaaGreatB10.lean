/- A part of the proof; no condition. -/
import Derived.Test.YtkhonmhnchdpkaaGreatB09
set_option maxRecDepth 100000
set_option maxHeartbeats 40000000
namespace Go.Proofs.YtkhonmhnchdpkaaGreat
open Go.RowKit _root_.Go.Proofs.Tryz
open Go renaming World→W
open Value renaming int→U,pointer→E,slice→L,float→Z,agg→A_
open IntKind renaming i64→Y,u64→Y_
open FloatKind renaming f64→V
open Obj renaming cells→X
open Option renaming some→I,none→O
open Ending renaming returned→R_
open _root_.Go.Proofs.Tryz renaming prog→N
section
attribute [local go_sem] Zi
attribute [local go_sem] Qg Xo
variable {w w' w0 w1 w2:W} {p p':MP} {q q':WP} {x x':Zv} {m:Zk} {a b:Nat} {s s':Zh} {S:List Nat} {n:Value}
theorem Mw (s:Zk) (v:Nat) (h:(s.step v).2.kind=1):(s.step v).1.waits=true:=by
 unfold Zk.step at h ⊢
 split
 ·assumption
 ·rename_i h0;rw [Q9 h0] at h;split at h
  ·simp [Z1] at h
  ·split at h
   ·simp [Zk.fault,Z1] at h
   ·split at h
    ·simp [Zk.fault,Z1] at h
    ·split at h
     ·simp [Zk.fault,Z1] at h
     ·rename_i h1 h2 h3 h4;rw [Q9 h1,Q9 h2,Q9 h3,Q9 h4];unfold Zk.go at h ⊢
      split
      ·rename_i h5;rw [P9 h5] at h;simp [Zk.fault,Z1] at h
      ·rename_i h5;rw [Q9 h5] at h;revert h;generalize hd:s.next.xt v s.at=d;cases d with
       |error e=>intro h;simp [Zk.fault,Z1] at h
       |ok r=>
        intro h;show r.1.waits=true;have h:r.2.kind=1:=h;unfold Zk.xt at hd;split at hd
        ·unfold Zk.zx at hd;split at hd
         ·cases hd
         ·split at hd
          ·cases hd;simp at h
          ·cases hd;rfl
        ·split at hd
         ·unfold Zk.zh at hd;split at hd
          ·cases hd
          ·split at hd
           ·cases hd
           ·split at hd
            ·cases hd
            ·cases hd;simp at h
         ·split at hd
          ·cases hd;simp [Z1] at h
          ·split at hd
           ·cases hd;simp [Z1] at h
           ·split at hd
            ·cases hd;simp [Z1] at h
            ·split at hd
             ·cases hd;simp [Z1] at h
             ·split at hd
              ·cases hd;simp [Z1] at h
              ·split at hd
               ·split at hd
                ·cases hd;simp [Z1] at h
                ·cases hd;simp [Z1] at h
               ·cases hd;simp [Z1] at h
def WRun (w:W) (q:WP) (a b:Nat) (x:Zv) (s:Zh) (e:Ending) (w':W):Prop:=∃ v,Cj w q a b (x.runs s v).1 (x.runs s v).2 e w'
theorem fld48 (a b c:Int) (w:W):(Instr.field 48 (A_ #[U Y a,U Y b,U Y c]) 0).run N w=.ok (U Y a) w:=by kernel_rfl
def Wy (w3 w4:W) (c0 c1 st:Int):Prop:=w4=(w3.alloc (X #[U Y 0,U Y 1,U Y 2,U Y 3,U Y (Z2 c1),U Y (Zw c0 c1)] 74)).alloc (.cells (Kx c0 c1 st).arr 243)
theorem look_blk {w3 w4:W} {c0 c1 st:Int} (h:Wy w3 w4 c0 c1 st):w4.heap[w3.heap.size+1]? =I (.cells (Kx c0 c1 st).arr 243 (0,0)):=by rw [h];exact Rb w3 _ _
theorem look_mod {w3 w4:W} {c0 c1 st:Int} (h:Wy w3 w4 c0 c1 st):Ze [] w3 w4:=by rw [h];exact ((Zr_ _ _).alloc _).alloc _
theorem Ie {w3 w4:W} {c0 c1 st:Int} (h:Wy w3 w4 c0 c1 st):w3.heap.size+1 < w4.heap.size:=by rw [h];simp
theorem look_d (c0 c1 st:Int) (w:W):Calls N 112 #[A_ #[U Y 0,U Y 1,U Y 2,U Y 3,U Y (Z2 c1),U Y (Zw c0 c1)],U Y c1,U Y_ st] w λ e w'=>e=R_ (E (I ⟨w.heap.size+1,0,O⟩))/\Wy w w' c0 c1 st:=look_c13 0 1 2 3 (Z2 c1) (Zw c0 c1) c1 st w
theorem Ee {v:Nat} {cl:Int} {xx:Nat} {fs:Bool} (hA:(⟨1,cl,xx,fs⟩:Xh)=(x.m.step v).2):x.runs s v=({x with m:=(x.m.step v).1.xl (s.vh (Z2 x.c1) cl)},s.qv (Z2 x.c1) cl 1):=by
 unfold Zv.runs;rw [<-hA];rfl
theorem Se {v:Nat} {cl:Int} {xx:Nat} (hA:(⟨3,cl,xx,true⟩:Xh)=(x.m.step v).2):x.runs s v=({x with m:=(x.m.step v).1,ql:=x.ql++[s.vh (Z2 x.c1) cl]},s.qv (Z2 x.c1) cl 1):=by
 unfold Zv.runs;rw [<-hA];rfl
theorem runs_end {v:Nat} {cl:Int} {xx:Nat} {fs:Bool} (hA:(⟨4,cl,xx,fs⟩:Xh)=(x.m.step v).2) (hh:(x.m.step v).1.qq=1):x.runs s v=({x with m:=(x.m.step v).1,scan:=I (Kx x.c0 x.c1 x.qg),part:=5},s):=by
 unfold Zv.runs;rw [<-hA];simp [hh]
theorem Ed {v:Nat} {cl:Int} {xx:Nat} {fs:Bool} (hA:(⟨4,cl,xx,fs⟩:Xh)=(x.m.step v).2) (hh:(x.m.step v).1.qq≠1):x.runs s v=({x with m:=(x.m.step v).1,part:=8},s):=by
 unfold Zv.runs;rw [<-hA];simp [hh]
theorem Wj {v:Nat} {kd cl:Int} {xx:Nat} {fs:Bool} (hA:(⟨kd,cl,xx,fs⟩:Xh)=(x.m.step v).2) (h1:kd≠1) (h3:¬ (kd=3/\fs=true)) (h4:kd≠4):x.runs s v=({x with m:=(x.m.step v).1},s):=by
 unfold Zv.runs;rw [<-hA];simp only [h1,h3,h4,if_false,false_and]
theorem runs_c (h:Xd w q a b x n s w1) (hn:n=Xi 4) (hp:x.part=4) (o:Ym x.m) (hl:x.ql.length<=4096):Calls N 91 #[E (I ⟨q.k,0,O⟩),E (I ⟨a,0,O⟩)] w1 (WRun w q a b x s):=by
 have NX:=Zh_ hn;have HP:=Zh_ hp;obtain ⟨p,hm,hmb,hput⟩:=h.za;have c7:=(h.cell 7 (u:=E (I ⟨q.p.mb,0,O⟩)) (λ r hm _=>by rw [<-hm];rfl)).1;have hc:=step_c hm o;rw [hmb] at hc;have hlt:=h.lt;have HPUT:=Zh_ hput;clear hput hm hmb hn hp h;go_enter func91,ntmps91;go_wp2_with fail;refine hc.mono ?_;rintro e w2 ⟨v,he,D2⟩;obtain ⟨⟨kd,cl,xx,fs⟩,hA⟩:∃ A,A=(x.m.step v).2:=⟨_,J⟩;rw [<-hA] at he;replace he:e=R_ (A_ #[U Y kd,U Y cl,Z V xx,.bool fs]):=he;subst he;have G2:=HPUT.out _ _ D2;clear c7 D2 hc HPUT;have hlt:=G2.lt;have HA:=Zh_ hA;clear hA;have H2:=Zh_ G2;clear G2
 by_cases k1:kd=1
 ·subst k1;go_upto_region 2 with fail;have BL:=Zh_ (Zc w2 (X #[U Y 1,U Y cl,Z V xx,.bool fs] 152));have G3:=H2.out.alloc (X #[U Y 1,U Y cl,Z V xx,.bool fs] 152);clear H2 hlt;generalize w2.alloc (X #[U Y 1,U Y cl,Z V xx,.bool fs] 152)=w3 at *
  generalize w2.heap.size=g at *
  have c1:=(G3.cell 1 (u:=U Y 0) (λ _ _ _=>J)).1;have c2:=(G3.cell 2 (u:=U Y 1) (λ _ _ _=>J)).1;have c3:=(G3.cell 3 (u:=U Y 2) (λ _ _ _=>J)).1;have c4:=(G3.cell 4 (u:=U Y 3) (λ _ _ _=>J)).1;have c5:=(G3.cell 5 (u:=U Y (Z2 x.c1)) (λ _ _ _=>J)).1;have c6:=(G3.cell 6 (u:=U Y (Zw x.c0 x.c1)) (λ _ _ _=>J)).1;have g1:=Za (i:=1) BL.out J;have hgl:=B9 BL.out;have hlt:=G3.lt;have hM:=G3.xe.drew;have H3:=Zh_ G3;have hna:g∉[a,b]:=λ hh=>by
   have t:=Zp BL.out;simp at hh;rcases hh with rfl|rfl
   ·rw [G3.xe.ta] at t;exact absurd t (by decide)
   ·rw [G3.xe.tb] at t;exact absurd t (by decide)
  have HNA:=Zh_ hna;clear G3 hna;have hL:=now11 hM 0 1 2 3 (Z2 x.c1) (Zw x.c0 x.c1) cl
  go_cut [5] (λ A wx=>A=Z V (s.vh (Z2 x.c1) cl)/\Xd w q a b {x with m:=(x.m.step v).1} n (s.qv (Z2 x.c1) cl 1) wx)
  case first=>
   go_region_held3 (λ wx=>wx.cell? ⟨q.k,1,O⟩=I (U Y 0)/\wx.cell? ⟨q.k,2,O⟩=I (U Y 1)/\wx.cell? ⟨q.k,3,O⟩=I (U Y 2)/\wx.cell? ⟨q.k,4,O⟩=I (U Y 3)/\wx.cell? ⟨q.k,5,O⟩=I (U Y (Z2 x.c1))/\wx.cell? ⟨q.k,6,O⟩=I (U Y (Zw x.c0 x.c1))/\wx.cell? ⟨g,1,O⟩=I (U Y cl)) (first|exact ⟨c1,c2,c3,c4,c5,c6,g1⟩|exact ⟨d1,d2,d3,d4,d5,d6,k1⟩)
   (first|(go_at_call 109;refine (hL).mono ?_;rintro e w4 ⟨rfl,M4,m4⟩;have G4:=Zh_ (H3.out.drew.xd M4 m4);have d1:=(G4.out.cell 1 (u:=U Y 0) (λ _ _ _=>J)).1;have d2:=(G4.out.cell 2 (u:=U Y 1) (λ _ _ _=>J)).1;have d3:=(G4.out.cell 3 (u:=U Y 2) (λ _ _ _=>J)).1;have d4:=(G4.out.cell 4 (u:=U Y 3) (λ _ _ _=>J)).1;have d5:=(G4.out.cell 5 (u:=U Y (Z2 x.c1)) (λ _ _ _=>J)).1;have d6:=(G4.out.cell 6 (u:=U Y (Zw x.c0 x.c1)) (λ _ _ _=>J)).1;have k1:=Za (i:=1) (m4.at BL.out HNA.out) J))
   all_goals
    go_wp2_with fail;go_meet;exact ⟨J,G4.out⟩
  case rest=>
   obtain ⟨rfl,G4⟩:=hcut;clear c1 c2 c3 c4 c5 c6 g1 hM hL hlt;obtain ⟨p,hm,hmb,hput⟩:=G4.za;have o':=Dc o v;have hw:(x.m.step v).1.waits=true:=Mw x.m v (by rw [<-HA.out]);have hr:(x.m.step v).1.reads.length<=4096:=by
    have h1:=o'.reads;have h2:=o'.xk;have h3:=o'.fuel;rw [hw] at h1;simp only [if_true] at h1;omega
   have hc:=Ab hm hw (o'.room hw) hr (s.vh (Z2 x.c1) cl);rw [hmb] at hc;have c7:=(G4.cell 7 (u:=E (I ⟨q.p.mb,0,O⟩)) (λ r hm _=>by rw [<-hm];rfl)).1;have hlt:=G4.lt;have HPUT:=Zh_ hput;clear hput hm hmb hw hr o' G4;go_wp2_with fail;refine hc.mono ?_;rintro e w5 ⟨rfl,D5⟩;have G5:=Zh_ (HPUT.out _ _ D5);clear D5 hc c7;go_wp2;go_end0;refine ⟨v,?_⟩;rw [Ee HA.out];exact ⟨J,n,G5.out,λ _=>NX.out.trans (by rw [HP.out])⟩
 ·have d1:(kd==1)=false:=by simp [k1]
  by_cases k3:kd=3
  ·subst k3;cases fs
   ·go_wp2;go_end0;refine ⟨v,?_⟩;rw [Wj HA.out (by decide) (by simp) (by decide)];exact ⟨J,n,H2.out.alloc _,λ _=>NX.out.trans (by rw [HP.out])⟩
   ·go_upto_region 5 with fail;have BL:=Zh_ (Zc w2 (X #[U Y 3,U Y cl,Z V xx,.bool true] 152));have G3:=H2.out.alloc (X #[U Y 3,U Y cl,Z V xx,.bool true] 152);clear H2 hlt;generalize w2.alloc (X #[U Y 3,U Y cl,Z V xx,.bool true] 152)=w3 at *
    generalize w2.heap.size=g at *
    have c1:=(G3.cell 1 (u:=U Y 0) (λ _ _ _=>J)).1;have c2:=(G3.cell 2 (u:=U Y 1) (λ _ _ _=>J)).1;have c3:=(G3.cell 3 (u:=U Y 2) (λ _ _ _=>J)).1;have c4:=(G3.cell 4 (u:=U Y 3) (λ _ _ _=>J)).1;have c5:=(G3.cell 5 (u:=U Y (Z2 x.c1)) (λ _ _ _=>J)).1;have c6:=(G3.cell 6 (u:=U Y (Zw x.c0 x.c1)) (λ _ _ _=>J)).1;have g1:=Za (i:=1) BL.out J;have hgl:=B9 BL.out;have hlt:=G3.lt;have hM:=G3.xe.drew;have H3:=Zh_ G3;have hna:g∉[a,b]:=λ hh=>by
     have t:=Zp BL.out;simp at hh;rcases hh with rfl|rfl
     ·rw [G3.xe.ta] at t;exact absurd t (by decide)
     ·rw [G3.xe.tb] at t;exact absurd t (by decide)
    have HNA:=Zh_ hna;clear G3 hna;have hL:=now11 hM 0 1 2 3 (Z2 x.c1) (Zw x.c0 x.c1) cl
    go_cut [7] (λ A wx=>A=Z V (s.vh (Z2 x.c1) cl)/\Xd w q a b {x with m:=(x.m.step v).1} n (s.qv (Z2 x.c1) cl 1) wx)
    case first=>
     go_region_held3 (λ wx=>wx.cell? ⟨q.k,1,O⟩=I (U Y 0)/\wx.cell? ⟨q.k,2,O⟩=I (U Y 1)/\wx.cell? ⟨q.k,3,O⟩=I (U Y 2)/\wx.cell? ⟨q.k,4,O⟩=I (U Y 3)/\wx.cell? ⟨q.k,5,O⟩=I (U Y (Z2 x.c1))/\wx.cell? ⟨q.k,6,O⟩=I (U Y (Zw x.c0 x.c1))/\wx.cell? ⟨g,1,O⟩=I (U Y cl)) (first|exact ⟨c1,c2,c3,c4,c5,c6,g1⟩|exact ⟨d1,d2,d3,d4,d5,d6,k1⟩)
      (first|(go_at_call 109;refine (hL).mono ?_;rintro e w4 ⟨rfl,M4,m4⟩;have G4:=Zh_ (H3.out.drew.xd M4 m4);have d1:=(G4.out.cell 1 (u:=U Y 0) (λ _ _ _=>J)).1;have d2:=(G4.out.cell 2 (u:=U Y 1) (λ _ _ _=>J)).1;have d3:=(G4.out.cell 3 (u:=U Y 2) (λ _ _ _=>J)).1;have d4:=(G4.out.cell 4 (u:=U Y 3) (λ _ _ _=>J)).1;have d5:=(G4.out.cell 5 (u:=U Y (Z2 x.c1)) (λ _ _ _=>J)).1;have d6:=(G4.out.cell 6 (u:=U Y (Zw x.c0 x.c1)) (λ _ _ _=>J)).1;have k1:=Za (i:=1) (m4.at BL.out HNA.out) J))
     all_goals
      go_wp2_with fail;go_meet;exact ⟨J,G4.out⟩
    case rest=>
     obtain ⟨rfl,G4⟩:=hcut;clear c1 c2 c3 c4 c5 c6 g1 hM hL hlt;obtain ⟨v0,c16,f16,hv,⟨cs,hcs,hcs16⟩,hnk,hput⟩:=G4.kf;obtain ⟨av,cv,rfl⟩:=Zo hv;have hlt:=G4.lt;have HPUT:=Zh_ hput;have HCS:=Zh_ hcs;have HCS16:=Zh_ hcs16;have HNK:=Zh_ hnk;obtain ⟨i0,hi0,hz0,hz1,hz2⟩:=info_parts Up;clear hput hcs hcs16 hnk G4;have hl':x.ql.length<=4096:=hl;go_wp2_with (at_builtin;refine wpList_append_own_at _ J _ _ 24 J 0 51 i0 (Z V 0) 1 8 underlying24 hi0 hz0 hz1 hz2 J (by decide) _ _ _ J (hv.alloc _) ⟨wc.heap.size,0,O⟩ 1 1 [Z V (s.vh (Z2 x.c1) cl)] J J ?CA ?CB ?CC ?CD ?CE ?_)
     case CB=>rfl
     case CC=>first|(unfold maxLen;omega)|omega
     case CD=>omega
     intro u' w5 ho5 hg5 _ hat;obtain ⟨g5,cap5,rfl,-⟩:=Ya ho5 (by omega);have K5:w5.heap[q.k]? =I (.cells cs 161 (0,0)):=(hg5.block q.k (by simp;omega) (λ e=>HNK.out q.k e.symm J)).trans (Zf _ HCS.out);have M5:Ze (L av x.ql.length cv).ownBlock.toList wc w5:=((Zr_ _ _).alloc _).grown hg5 (λ g hg=>.inl (by simpa using hg));have hon:Jn wc (L av x.ql.length cv) (L (I ⟨g5,0,O⟩) (x.ql.length+1) cap5):=by
      rcases hat with e|e
      ·exact .inl e
      ·exact .inr ⟨_,e,by first|omega|(rw [World.size_alloc];omega)⟩
     have z8:=Zb (i:=16) K5;have r8:w5.cell? ⟨q.k,16,O⟩=I (L av x.ql.length cv):=Za K5 HCS16.out;have hlt5:=B9 K5;have G6:=Zh_ (HPUT.out w5 _ (L (I ⟨g5,0,O⟩) (x.ql.length+1) cap5) (s.vh (Z2 x.c1) cl) M5 hon (by simpa using ho5) J);clear hon hat hg5 ho5 M5 K5 hv c16 f16 hlt HPUT;go_wp2;go_end0;refine ⟨v,?_⟩;rw [Se HA.out];exact ⟨J,n,G6.out,λ _=>NX.out.trans (by rw [HP.out])⟩
  ·have d3:(kd==3)=false:=by simp [k3]
   by_cases k4:kd=4
   ·subst k4;obtain ⟨p,hm,hmb,-⟩:=H2.out.za;obtain ⟨hw,hhw⟩:∃ hw,hw=(x.m.step v).1.qq:=⟨_,J⟩;have c7:=(H2.out.cell 7 (u:=E (I ⟨q.p.mb,0,O⟩)) (λ r hm _=>by rw [<-hm];rfl)).1;have hc:=end_c (hm.alloc (X #[U Y 4,U Y cl,Z V xx,.bool fs] 152));rw [hmb,<-hhw] at hc;have HW:=Zh_ hhw;clear hm hmb hhw;have hf:=λ w=>fld48 hw (x.m.step v).1.qn (x.m.step v).1.zd w;have BL:=Zh_ (Zc w2 (X #[U Y 4,U Y cl,Z V xx,.bool fs] 152))
    by_cases e1:hw=1
    ·subst e1;go_wp2_with fail;refine hc.mono ?_;rintro e w3 ⟨rfl,m3⟩;have G3:=(H2.out.alloc _).xi m3;clear hc c7 m3 H2;go_upto_region 8 with fail;have c1:=(G3.cell 1 (u:=U Y 0) (λ _ _ _=>J)).1;have c2:=(G3.cell 2 (u:=U Y 1) (λ _ _ _=>J)).1;have c3:=(G3.cell 3 (u:=U Y 2) (λ _ _ _=>J)).1;have c4:=(G3.cell 4 (u:=U Y 3) (λ _ _ _=>J)).1;have c5:=(G3.cell 5 (u:=U Y (Z2 x.c1)) (λ _ _ _=>J)).1;have c6:=(G3.cell 6 (u:=U Y (Zw x.c0 x.c1)) (λ _ _ _=>J)).1;have c8:=(G3.cell 8 (u:=U Y x.c1) (λ _ _ _=>J)).1;have c14:=(G3.cell 14 (u:=U Y_ x.qg) (λ _ _ _=>J)).1;obtain ⟨u17,c17,f17⟩:=G3.ob;have hlt:=G3.lt;have hsz:=G3.size;have H3:=Zh_ G3;clear G3;have hL:=look_d x.c0 x.c1 x.qg
     go_cut [90] (λ _ wx=>Xd w q a b {x with m:=(x.m.step v).1,scan:=I (Kx x.c0 x.c1 x.qg)} n s wx)
     case first=>
      go_region_held3 (λ wx=>wx.cell? ⟨q.k,1,O⟩=I (U Y 0)/\wx.cell? ⟨q.k,2,O⟩=I (U Y 1)/\wx.cell? ⟨q.k,3,O⟩=I (U Y 2)/\wx.cell? ⟨q.k,4,O⟩=I (U Y 3)/\wx.cell? ⟨q.k,5,O⟩=I (U Y (Z2 x.c1))/\wx.cell? ⟨q.k,6,O⟩=I (U Y (Zw x.c0 x.c1))/\wx.cell? ⟨q.k,8,O⟩=I (U Y x.c1)/\wx.cell? ⟨q.k,14,O⟩=I (U Y_ x.qg)) (first|exact ⟨c1,c2,c3,c4,c5,c6,c8,c14⟩|exact ⟨d1,d2,d3,d4,d5,d6,d8,d14⟩|(have G6:=G4.out.yk B4.out (Nat.le_succ_of_le hsz);have e1:=(G6.cell 1 (u:=U Y 0) (λ _ _ _=>J)).1;have e2:=(G6.cell 2 (u:=U Y 1) (λ _ _ _=>J)).1;have e3:=(G6.cell 3 (u:=U Y 2) (λ _ _ _=>J)).1;have e4:=(G6.cell 4 (u:=U Y 3) (λ _ _ _=>J)).1;have e5:=(G6.cell 5 (u:=U Y (Z2 x.c1)) (λ _ _ _=>J)).1;have e6:=(G6.cell 6 (u:=U Y (Zw x.c0 x.c1)) (λ _ _ _=>J)).1;have e8:=(G6.cell 8 (u:=U Y x.c1) (λ _ _ _=>J)).1;have e14:=(G6.cell 14 (u:=U Y_ x.qg) (λ _ _ _=>J)).1;exact ⟨e1,e2,e3,e4,e5,e6,e8,e14⟩))
       (first|(go_at_call 112;refine (hL _).mono ?_;rintro e w4 ⟨rfl,hw4⟩;have B4:=Zh_ (look_blk hw4);have G4:=Zh_ (H3.out.drew.xi (look_mod hw4));have hz4:=Ie hw4;have d1:=(G4.out.cell 1 (u:=U Y 0) (λ _ _ _=>J)).1;have d2:=(G4.out.cell 2 (u:=U Y 1) (λ _ _ _=>J)).1;have d3:=(G4.out.cell 3 (u:=U Y 2) (λ _ _ _=>J)).1;have d4:=(G4.out.cell 4 (u:=U Y 3) (λ _ _ _=>J)).1;have d5:=(G4.out.cell 5 (u:=U Y (Z2 x.c1)) (λ _ _ _=>J)).1;have d6:=(G4.out.cell 6 (u:=U Y (Zw x.c0 x.c1)) (λ _ _ _=>J)).1;have d8:=(G4.out.cell 8 (u:=U Y x.c1) (λ _ _ _=>J)).1;have d14:=(G4.out.cell 14 (u:=U Y_ x.qg) (λ _ _ _=>J)).1;obtain ⟨v17,e17,g17⟩:=G4.out.ob;have hlt4:=G4.out.lt;clear hw4))
      all_goals
       go_wp2_with fail;go_meet;exact G4.out.yk B4.out (Nat.le_succ_of_le hsz)
     case rest=>
      have G5:=Zh_ hcut;have hlt:=hcut.lt;clear hcut H3 c1 c2 c3 c4 c5 c6 c8 c14;go_wp2_with fail;refine (Uq G5.out 5 (by decide) (by decide)).mono ?_;rintro e w6 ⟨rfl,G6⟩;go_wp2;go_end0;refine ⟨v,?_⟩;rw [runs_end HA.out HW.out.symm];exact ⟨J,G6⟩
    ·have dw:(hw==1)=false:=by simp [e1]
     go_wp2_with fail;refine hc.mono ?_;rintro e w3 ⟨rfl,m3⟩;have B3:=Za (i:=0) (m3.at BL.out (by simp)) J;have L3:=B9 (m3.at BL.out (by simp));have G3:=(H2.out.alloc _).xi m3;have hlt:=G3.lt;have H3:=Zh_ G3;clear hc c7 m3 H2 G3;go_wp2_with fail;refine (Uq H3.out 8 (by decide) (by decide)).mono ?_;rintro e w6 ⟨rfl,G6⟩;go_wp2;go_end0;refine ⟨v,?_⟩;rw [Ed HA.out (λ h=>e1 (HW.out.trans h))];exact ⟨J,G6⟩
   ·have d4:(kd==4)=false:=by simp [k4]
    go_wp2;go_end0;refine ⟨v,?_⟩;rw [Wj HA.out k1 (by simp [k3]) k4];exact ⟨J,n,H2.out.alloc _,λ _=>NX.out.trans (by rw [HP.out])⟩
end
section
attribute [local go_sem] Zi
attribute [local go_sem] Qg Xo
variable {w w' w0 w1 w2:W} {p p':MP} {q q':WP} {x x':Zv} {m:Zk} {a b:Nat} {s s':Zh} {S:List Nat} {n:Value}
theorem Oz {l:List (Int×Nat)} {k:Nat} (h:k < l.length):(Yj l)[k * 2]? =I (U Y (l.getD k (0,0)).1)/\(Yj l)[k * 2+1]? =I (Z V (l.getD k (0,0)).2):=by
 induction l generalizing k with
 |nil=>simp at h
 |cons p l ih=>
  cases k with
  |zero=>exact ⟨J,J⟩
  |succ k=>
   have:=ih (k:=k) (by simpa using h);simp only [Yj,List.flatMap_cons,List.cons_append,List.nil_append,List.getD_cons_succ] at this ⊢
   rw [show (k+1) * 2=(k * 2)+1+1 by omega,show k * 2+1+1+1=(k * 2+1)+1+1 by omega];simp only [List.getElem?_cons_succ];exact this
theorem Pr (s:Xc):s.all.length=s.order.length:=by simp [Xc.all]
theorem Kc {w:W} {t:TypeId} {g n cap:Nat} {xs:List Value} (h:w.ownsRow 0 t 2 (L (I ⟨g,0,O⟩) n cap) n xs) {i:Nat} {u:Value} (hi:xs[i]? =I u):w.cell? ⟨g,i,O⟩=I u:=by
 have:=h.cells (g:=g) J i u hi
 rwa [show ((⟨g,0,O⟩:Addr).add i)=⟨g,i,O⟩ by unfold Addr.add;split <;> simp_all] at this
theorem Jw {w:W} {t:TypeId} {g n cap:Nat} {xs:List Value} (h:w.ownsRow 0 t 1 (L (I ⟨g,0,O⟩) n cap) n xs) {i:Nat} {u:Value} (hi:xs[i]? =I u):w.cell? ⟨g,i,O⟩=I u:=Gt h J hi
theorem Yw {w:W} {k i k' j:Nat} {u v:Value} (h:w.cell? ⟨k',i,O⟩=I v) (hne:(⟨k,j,O⟩:Addr)≠⟨k',i,O⟩):(w.setCell ⟨k,j,O⟩ u).cell? ⟨k',i,O⟩=I v:=by rw [World.cell?_setCell_other (h:=hne)];exact h
theorem Qf {k i j:Nat} (h:j≠i):(⟨k,j,O⟩:Addr)≠⟨k,i,O⟩:=λ e=>h (by injection e)
theorem Dr {k k' i j:Nat} (h:k≠k'):(⟨k,j,O⟩:Addr)≠⟨k',i,O⟩:=λ e=>h (by injection e)
theorem J6 (h:x.wr.qf s=false) (hw:x.written < x.ql.length):x.writes s=({x with back:=I (x.wr.next s)},x.wr.mem s):=by
 unfold Zv.writes Zv.wrote;rw [h,Q9 (by decide)];unfold Zv.ended;rw [Q9 (by simp;omega)]
theorem Pk (h:x.wr.qf s=true) (hw:x.written+1≠x.ql.length):x.writes s=({x with back:=O,written:=x.written+1},x.wr.mem s):=by
 unfold Zv.writes Zv.wrote;rw [h,P9 rfl];unfold Zv.ended;rw [Q9 (by simpa using hw)]
theorem Pm (h:x.wr.qf s=true) (hw:x.written+1=x.ql.length):x.writes s=({x with back:=O,written:=x.written+1,part:=7},x.wr.mem s):=by
 unfold Zv.writes Zv.wrote;rw [h,P9 rfl];unfold Zv.ended;rw [P9 (by simpa using hw)]
theorem Om (h:Xd w q a b x n s w1) (hn:n=Xi 6) (hp:x.part=6) (hw:x.written < x.ql.length) (he:x.ql.length=x.m.buf.order.length) (hl:x.ql.length<=4096) (ho:∀ k∈x.m.buf.order,0<=k/\k < 256) (hi:x.wr.Inv):Calls N 93 #[E (I ⟨q.k,0,O⟩),E (I ⟨a,0,O⟩)] w1 (Cj w q a b (x.writes s).1 (x.writes s).2):=by
 have NX:=Zh_ hn;have HP:=Zh_ hp;have HI:=Zh_ hi;clear hn hp hi;rcases hb:x.back with _|r
 ·obtain ⟨c18,f18⟩:=h.yg hb;obtain ⟨p,hm,hmb,-⟩:=h.za;have c7:=(h.cell 7 (u:=E (I ⟨q.p.mb,0,O⟩)) (λ r hm _=>by rw [<-hm];rfl)).1;have c19:=(h.cell 19 (u:=U Y x.written) (λ _ _ _=>J)).1;have hlt:=h.lt;have hrow:=Oz (l:=x.m.buf.all) (k:=x.written) (by rw [Pr];omega);have HROW:=Zh_ hrow;have HNB:=Zh_ hb;have HB:=Zh_ (show x.wr=wrOf x.c0 x.c1 (x.m.buf.all.getD x.written (0,0)).1 (x.ql.getD x.written 0) (u64 (x.qg+1)) (x.m.buf.all.getD x.written (0,0)).2 by unfold Zv.wr;rw [hb]);have H:=Zh_ h;have HM:=Zh_ hm;have HMB:=Zh_ hmb;have hlen:x.written < x.m.buf.order.length:=by omega
  have HK:=Zh_ (λ (wx:W) (D:Ze [] w1 wx)=>(show wx.cell? ⟨q.k,7,O⟩=I (E (I ⟨q.p.mb,0,O⟩))/\wx.cell? ⟨q.k,19,O⟩=I (U Y x.written) from ⟨((h.xi D).cell 7 (λ r hm _=>by rw [<-hm];rfl)).1,((h.xi D).cell 19 (λ _ _ _=>J)).1⟩));have hc:=λ (wx:W) (D:Ze [] w1 wx)=>Dy (hm.mod D (by simp)) ho;rw [hmb] at hc;have HC:=Zh_ hc;clear hc hm hmb hrow h hb;generalize (x.m.buf.all.getD x.written (0,0)).1=tc at *
  generalize (x.m.buf.all.getD x.written (0,0)).2=tx at *
  go_enter func93,ntmps93;go_upto_region 1 with fail
  go_cut [4] (λ A wx=>∃ g,A=E (I ⟨g,0,O⟩)/\wx.heap[g]? =I (X #[U Y tc,Z V tx] 53 (0,0))/\Xd w q a b x n s wx)
  case first=>
   go_region_law (first
     |(go_simp;go_at_call 114;refine (HC.out _ ((Zr_ _ _).drew)).mono ?_;rintro e w4 ⟨u4,rfl,hu4,hn4,m4⟩;have D4:Ze [] w1 w4:=((Zr_ [] _).drew).trans m4;obtain ⟨g4,cap4,rfl,-⟩:=Ya hu4 (by omega);have r0:=Kc hu4 HROW.out.1;have r1:=Kc hu4 HROW.out.2;have l4:=Yr hu4 (g:=g4) J;obtain ⟨c7',c19'⟩:=HK.out _ D4;have hk4:=Nat.lt_of_lt_of_le hlt D4.size;clear hu4 hn4 m4)
     |(go_simp;go_at_call 114;refine (HC.out _ (((Zr_ _ _).alloc _).drew)).mono ?_;rintro e w4 ⟨u4,rfl,hu4,hn4,m4⟩;have D4:Ze [] w1 w4:=(((Zr_ [] _).alloc _).drew).trans m4;have G4:=m4.at (k:=w1.heap.size) (o:=X #[U Y 0,Z V 0] 53 (0,0)) (heap_alloc_new w1 (X #[U Y 0,Z V 0] 53)) (by simp);have g0:=Za (i:=0) G4 J;have g1:=Za (i:=1) G4 J;have f0:=Zb (i:=0) G4;have f1:=Zb (i:=1) G4;obtain ⟨g4,cap4,rfl,-⟩:=Ya hu4 (by omega);have r0:=Kc hu4 HROW.out.1;have r1:=Kc hu4 HROW.out.2;have l4:=Yr hu4 (g:=g4) J;obtain ⟨c7',c19'⟩:=HK.out _ D4;have hk4:=Nat.lt_of_lt_of_le hlt D4.size;clear hu4 hn4 m4))
   all_goals
    go_wp2_with fail;go_meet
    first
    |exact ⟨_,J,heap_alloc_new _ _,H.out.xi (by repeat (first|exact D4|with_reducible exact Zr_ _ _|with_reducible refine Ze.drew ?_|with_reducible refine Ze.alloc ?_ _|with_reducible refine Ze.setCell ?_ _ _ (.inr (Nat.le_refl _))))⟩
    |exact ⟨_,J,Zd _ (Zd _ G4),H.out.xi (by repeat (first|exact D4|with_reducible exact Zr_ _ _|with_reducible refine Ze.drew ?_|with_reducible refine Ze.alloc ?_ _|with_reducible refine Ze.setCell ?_ _ _ (.inr (Nat.le_refl _))))⟩
  case rest=>
   obtain ⟨g,rfl,BL,G1⟩:=hcut;obtain ⟨v0,c16,f16,hv,⟨cs,hcs,hcs16⟩,hnk,-⟩:=G1.kf;obtain ⟨gw,capw,rfl,-⟩:=Ya hv (by omega);have hwy:(x.ql.map (Z V))[x.written]? =I (Z V (x.ql.getD x.written 0)):=by simp [hw]
   have cw:=Jw hv hwy;have lgw:=Yr hv (g:=gw) J;have HV:=Zh_ hv;have HWY:=Zh_ hwy;have HCS:=Zh_ hcs;have HCS16:=Zh_ hcs16;have HNK:=Zh_ (show q.k≠gw from λ e=>hnk gw J e.symm);clear c7 c19 hwy hlt c18 f18 hv hcs hcs16 hnk;have c1:=(G1.cell 1 (u:=U Y 0) (λ _ _ _=>J)).1;have c2:=(G1.cell 2 (u:=U Y 1) (λ _ _ _=>J)).1;have c3:=(G1.cell 3 (u:=U Y 2) (λ _ _ _=>J)).1;have c4:=(G1.cell 4 (u:=U Y 3) (λ _ _ _=>J)).1;have c5:=(G1.cell 5 (u:=U Y (Z2 x.c1)) (λ _ _ _=>J)).1;have c6:=(G1.cell 6 (u:=U Y (Zw x.c0 x.c1)) (λ _ _ _=>J)).1;have c14:=(G1.cell 14 (u:=U Y_ x.qg) (λ _ _ _=>J)).1;have c19:=(G1.cell 19 (u:=U Y x.written) (λ _ _ _=>J)).1;obtain ⟨c18,f18⟩:=G1.yg HNB.out;have b0:=Za (i:=0) BL J;have b1:=Za (i:=1) BL J;have hgl:=B9 BL;have hlt:=G1.lt;have HGK:=Zh_ (show q.k≠g from λ e=>by have:=Zp BL;rw [<-e,Zp HCS.out] at this;exact absurd this (by decide));have BL:=Zh_ BL;have hsz:=G1.size;have H1:=Zh_ G1;clear G1 H HK HC HM HMB HROW;generalize (x.ql.getD x.written 0)=y at *
   generalize wc=w2 at *
   have HK:=Zh_ (λ (wx:W) (D:Ze [] w2 wx)=>(show wx.cell? ⟨q.k,1,O⟩=I (U Y 0)/\wx.cell? ⟨q.k,2,O⟩=I (U Y 1)/\wx.cell? ⟨q.k,3,O⟩=I (U Y 2)/\wx.cell? ⟨q.k,4,O⟩=I (U Y 3)/\wx.cell? ⟨q.k,5,O⟩=I (U Y (Z2 x.c1))/\wx.cell? ⟨q.k,6,O⟩=I (U Y (Zw x.c0 x.c1))/\wx.cell? ⟨q.k,14,O⟩=I (U Y_ x.qg)/\wx.cell? ⟨q.k,19,O⟩=I (U Y x.written)/\wx.cell? ⟨q.k,16,O⟩=I (L (I ⟨gw,0,O⟩) x.ql.length capw)/\wx.cell? ⟨gw,x.written,O⟩=I (Z V y)/\wx.cell? ⟨g,0,O⟩=I (U Y tc)/\wx.cell? ⟨g,1,O⟩=I (Z V tx) from ⟨((H1.out.xi D).cell 1 (λ _ _ _=>J)).1,((H1.out.xi D).cell 2 (λ _ _ _=>J)).1,((H1.out.xi D).cell 3 (λ _ _ _=>J)).1,((H1.out.xi D).cell 4 (λ _ _ _=>J)).1,((H1.out.xi D).cell 5 (λ _ _ _=>J)).1,((H1.out.xi D).cell 6 (λ _ _ _=>J)).1,((H1.out.xi D).cell 14 (λ _ _ _=>J)).1,((H1.out.xi D).cell 19 (λ _ _ _=>J)).1,Za (D.at HCS.out (by simp)) HCS16.out,Jw (Zt HV.out D (by simp)) HWY.out,Za (D.at BL.out (by simp)) J,Za (D.at BL.out (by simp)) J⟩));go_upto_region 2 with fail
   go_cut [47] (λ _ wx=>Xd w q a b {x with back:=I x.wr} n s wx)
   case first=>
    go_region_held3 (λ wx=>wx.cell? ⟨q.k,1,O⟩=I (U Y 0)/\wx.cell? ⟨q.k,2,O⟩=I (U Y 1)/\wx.cell? ⟨q.k,3,O⟩=I (U Y 2)/\wx.cell? ⟨q.k,4,O⟩=I (U Y 3)/\wx.cell? ⟨q.k,5,O⟩=I (U Y (Z2 x.c1))/\wx.cell? ⟨q.k,6,O⟩=I (U Y (Zw x.c0 x.c1))/\wx.cell? ⟨q.k,14,O⟩=I (U Y_ x.qg)/\wx.cell? ⟨q.k,19,O⟩=I (U Y x.written)/\wx.cell? ⟨q.k,16,O⟩=I (L (I ⟨gw,0,O⟩) x.ql.length capw)/\wx.cell? ⟨gw,x.written,O⟩=I (Z V y)/\wx.cell? ⟨g,0,O⟩=I (U Y tc)/\wx.cell? ⟨g,1,O⟩=I (Z V tx)) (first|exact ⟨c1,c2,c3,c4,c5,c6,c14,c19,c16,cw,b0,b1⟩|(obtain ⟨k1,k2,k3,k4,k5,k6,k14,k19,k16,kw,kb0,kb1⟩:=HK.out _ D4;exact ⟨k1,k2,k3,k4,k5,k6,k14,k19,k16,kw,kb0,kb1⟩)|(obtain ⟨k1,k2,k3,k4,k5,k6,k14,k19,k16,kw,kb0,kb1⟩:=HK.out _ D4;exact ⟨Yw k1 (Qf (by decide)),Yw k2 (Qf (by decide)),Yw k3 (Qf (by decide)),Yw k4 (Qf (by decide)),Yw k5 (Qf (by decide)),Yw k6 (Qf (by decide)),Yw k14 (Qf (by decide)),Yw k19 (Qf (by decide)),Yw k16 (Qf (by decide)),Yw kw (Dr HNK.out),Yw kb0 (Dr HGK.out),Yw kb1 (Dr HGK.out)⟩))
     (first|(go_at_call 115;refine (write11 0 1 2 3 (Z2 x.c1) (Zw x.c0 x.c1) tc (IntKind.u64.wrap (x.qg+1)) y tx _).mono ?_;rintro e w4 ⟨k4,rfl,B4,s4,m4⟩;have D4:Ze [] w2 w4:=((Zr_ [] _).drew).trans m4;have G4:=Zh_ (H1.out.xi D4);obtain ⟨d18,e18⟩:=G4.out.yg HNB.out;have hlt4:=G4.out.lt;have B4:=Zh_ B4;clear m4))
    all_goals
     go_wp2_with fail;go_meet;exact G4.out.uq (r':=x.wr) (by rw [HB.out];exact B4.out) (Nat.le_trans hsz s4)
   case rest=>
    have G2:=hcut;clear hcut c1 c2 c3 c4 c5 c6 c14 c19 c16 f16 c18 f18 b0 b1 cw hgl hlt HGK BL H1 HK hsz lgw HV HWY HCS HCS16 HNK;obtain ⟨k,hk,c18,f18,hput⟩:=G2.back J;have hL:=Az G2.xe x.wr HI.out hk;have hlt:=G2.lt;have HPUT:=Zh_ hput;clear hput hk G2;obtain ⟨z,hz⟩:∃ z,z=x.wr.qf s:=⟨_,J⟩;rw [<-hz] at hL;have HZ:=Zh_ hz;clear hz
    by_cases hlast:x.written+1=x.ql.length
    ·have HLAST:=Zh_ hlast;have hd:((x.written:Int)==x.ql.length)=false:=by simp;omega
     have hd1:((x.written:Int)+1==x.ql.length)=true:=by simp;omega
     clear hlast;cases z
     ·go_wp2_with fail;refine hL.mono ?_;rintro e w5 ⟨rfl,M5,k5,m5⟩;have G5:=HPUT.out _ _ _ M5 k5 m5;obtain ⟨v5,c16,f16,hv5,-,-,-⟩:=G5.kf;obtain ⟨av5,cap5,rfl⟩:=Zo hv5;have c19:=(G5.cell 19 (u:=U Y x.written) (λ _ _ _=>J)).1;have hlt:=G5.lt;have G5:=Zh_ G5;clear hv5 M5 k5 m5 hL HPUT c18 f18;go_wp2_with fail;go_quiet (fail);go_wp2;go_end0;rw [J6 HZ.out.symm hw];exact ⟨J,n,G5.out.drewN _,λ _=>NX.out.trans (by show Xi 6=Xi x.part;rw [HP.out])⟩
     ·go_wp2_with fail;refine hL.mono ?_;rintro e w5 ⟨rfl,M5,k5,m5⟩;have G5:=HPUT.out _ _ _ M5 k5 m5;obtain ⟨_,-,c18',f18',-⟩:=G5.back J;have hlt:=G5.lt;have c19:=(G5.cell 19 (u:=U Y x.written) (λ _ _ _=>J)).1;have f19:=(G5.cell 19 (u:=U Y x.written) (λ _ _ _=>J)).2;have G6:=G5.vq.jk 19 (U Y (x.written+1:Nat)) {x with back:=O,written:=x.written+1} (λ _=>J) J J J J J;obtain ⟨v5,c16,f16,hv5,-,-,-⟩:=G5.kf;obtain ⟨av5,cap5,rfl⟩:=Zo hv5;have G6:=Zh_ G6;clear hv5 M5 k5 m5 hL HPUT c18 f18 G5;go_wp2_with fail;go_quiet (fail);go_wp2_with fail;refine (Uq (G6.out.drewN _) 7 (by decide) (by decide)).mono ?_;rintro e w6 ⟨rfl,G7⟩;go_wp2;go_end0;rw [Pm HZ.out.symm HLAST.out];exact ⟨J,G7⟩
    ·have HLAST:=Zh_ hlast;have hd:((x.written:Int)==x.ql.length)=false:=by simp;omega
     have hd1:((x.written:Int)+1==x.ql.length)=false:=by simp;omega
     clear hlast;cases z
     ·go_wp2_with fail;refine hL.mono ?_;rintro e w5 ⟨rfl,M5,k5,m5⟩;have G5:=HPUT.out _ _ _ M5 k5 m5;obtain ⟨v5,c16,f16,hv5,-,-,-⟩:=G5.kf;obtain ⟨av5,cap5,rfl⟩:=Zo hv5;have c19:=(G5.cell 19 (u:=U Y x.written) (λ _ _ _=>J)).1;have hlt:=G5.lt;have G5:=Zh_ G5;clear hv5 M5 k5 m5 hL HPUT c18 f18;go_wp2_with fail;go_quiet (fail);go_wp2;go_end0;rw [J6 HZ.out.symm hw];exact ⟨J,n,G5.out.drewN _,λ _=>NX.out.trans (by show Xi 6=Xi x.part;rw [HP.out])⟩
     ·go_wp2_with fail;refine hL.mono ?_;rintro e w5 ⟨rfl,M5,k5,m5⟩;have G5:=HPUT.out _ _ _ M5 k5 m5;obtain ⟨_,-,c18',f18',-⟩:=G5.back J;have hlt:=G5.lt;have c19:=(G5.cell 19 (u:=U Y x.written) (λ _ _ _=>J)).1;have f19:=(G5.cell 19 (u:=U Y x.written) (λ _ _ _=>J)).2;have G6:=G5.vq.jk 19 (U Y (x.written+1:Nat)) {x with back:=O,written:=x.written+1} (λ _=>J) J J J J J;obtain ⟨v5,c16,f16,hv5,-,-,-⟩:=G5.kf;obtain ⟨av5,cap5,rfl⟩:=Zo hv5;have G6:=Zh_ G6;clear hv5 M5 k5 m5 hL HPUT c18 f18 G5;go_wp2_with fail;go_quiet (fail);go_wp2;go_end0;rw [Pk HZ.out.symm HLAST.out];exact ⟨J,n,G6.out.drewN _,λ _=>NX.out.trans (by show Xi 6=Xi x.part;rw [HP.out])⟩
 ·have e:x={x with back:=I x.wr}:=by
   have:x.wr=r:=by unfold Zv.wr;rw [hb]
   rw [this];cases x
   simp at hb ⊢
   exact hb
  obtain ⟨k18,-,c18a,f18a,-⟩:=h.back hb;have hlt:=h.lt;have G2:Xd w q a b {x with back:=I x.wr} n s w1:=e ▸ h;have HB:=Zh_ hb;clear e hb h;go_enter func93,ntmps93;go_upto_region 3 with fail;clear c18a f18a hlt;obtain ⟨k,hk,c18,f18,hput⟩:=G2.back J;have hL:=Az G2.xe x.wr HI.out hk;have hlt:=G2.lt;have HPUT:=Zh_ hput;clear hput hk G2;obtain ⟨z,hz⟩:∃ z,z=x.wr.qf s:=⟨_,J⟩;rw [<-hz] at hL;have HZ:=Zh_ hz;clear hz
  by_cases hlast:x.written+1=x.ql.length
  ·have HLAST:=Zh_ hlast;have hd:((x.written:Int)==x.ql.length)=false:=by simp;omega
   have hd1:((x.written:Int)+1==x.ql.length)=true:=by simp;omega
   clear hlast;cases z
   ·go_wp2_with fail;refine hL.mono ?_;rintro e w5 ⟨rfl,M5,k5,m5⟩;have G5:=HPUT.out _ _ _ M5 k5 m5;obtain ⟨v5,c16,f16,hv5,-,-,-⟩:=G5.kf;obtain ⟨av5,cap5,rfl⟩:=Zo hv5;have c19:=(G5.cell 19 (u:=U Y x.written) (λ _ _ _=>J)).1;have hlt:=G5.lt;have G5:=Zh_ G5;clear hv5 M5 k5 m5 hL HPUT c18 f18;go_wp2_with fail;go_quiet (fail);go_wp2;go_end0;rw [J6 HZ.out.symm hw];exact ⟨J,n,G5.out.drewN _,λ _=>NX.out.trans (by show Xi 6=Xi x.part;rw [HP.out])⟩
   ·go_wp2_with fail;refine hL.mono ?_;rintro e w5 ⟨rfl,M5,k5,m5⟩;have G5:=HPUT.out _ _ _ M5 k5 m5;obtain ⟨_,-,c18',f18',-⟩:=G5.back J;have hlt:=G5.lt;have c19:=(G5.cell 19 (u:=U Y x.written) (λ _ _ _=>J)).1;have f19:=(G5.cell 19 (u:=U Y x.written) (λ _ _ _=>J)).2;have G6:=G5.vq.jk 19 (U Y (x.written+1:Nat)) {x with back:=O,written:=x.written+1} (λ _=>J) J J J J J;obtain ⟨v5,c16,f16,hv5,-,-,-⟩:=G5.kf;obtain ⟨av5,cap5,rfl⟩:=Zo hv5;have G6:=Zh_ G6;clear hv5 M5 k5 m5 hL HPUT c18 f18 G5;go_wp2_with fail;go_quiet (fail);go_wp2_with fail;refine (Uq (G6.out.drewN _) 7 (by decide) (by decide)).mono ?_;rintro e w6 ⟨rfl,G7⟩;go_wp2;go_end0;rw [Pm HZ.out.symm HLAST.out];exact ⟨J,G7⟩
  ·have HLAST:=Zh_ hlast;have hd:((x.written:Int)==x.ql.length)=false:=by simp;omega
   have hd1:((x.written:Int)+1==x.ql.length)=false:=by simp;omega
   clear hlast;cases z
   ·go_wp2_with fail;refine hL.mono ?_;rintro e w5 ⟨rfl,M5,k5,m5⟩;have G5:=HPUT.out _ _ _ M5 k5 m5;obtain ⟨v5,c16,f16,hv5,-,-,-⟩:=G5.kf;obtain ⟨av5,cap5,rfl⟩:=Zo hv5;have c19:=(G5.cell 19 (u:=U Y x.written) (λ _ _ _=>J)).1;have hlt:=G5.lt;have G5:=Zh_ G5;clear hv5 M5 k5 m5 hL HPUT c18 f18;go_wp2_with fail;go_quiet (fail);go_wp2;go_end0;rw [J6 HZ.out.symm hw];exact ⟨J,n,G5.out.drewN _,λ _=>NX.out.trans (by show Xi 6=Xi x.part;rw [HP.out])⟩
   ·go_wp2_with fail;refine hL.mono ?_;rintro e w5 ⟨rfl,M5,k5,m5⟩;have G5:=HPUT.out _ _ _ M5 k5 m5;obtain ⟨_,-,c18',f18',-⟩:=G5.back J;have hlt:=G5.lt;have c19:=(G5.cell 19 (u:=U Y x.written) (λ _ _ _=>J)).1;have f19:=(G5.cell 19 (u:=U Y x.written) (λ _ _ _=>J)).2;have G6:=G5.vq.jk 19 (U Y (x.written+1:Nat)) {x with back:=O,written:=x.written+1} (λ _=>J) J J J J J;obtain ⟨v5,c16,f16,hv5,-,-,-⟩:=G5.kf;obtain ⟨av5,cap5,rfl⟩:=Zo hv5;have G6:=Zh_ G6;clear hv5 M5 k5 m5 hL HPUT c18 f18 G5;go_wp2_with fail;go_quiet (fail);go_wp2;go_end0;rw [Pk HZ.out.symm HLAST.out];exact ⟨J,n,G6.out.drewN _,λ _=>NX.out.trans (by show Xi 6=Xi x.part;rw [HP.out])⟩
end
section
attribute [local go_sem] Zi
variable {w w' w0 w1 w2:W} {p p':MP} {q q':RP} {x x':Z8} {m:Zk} {a b:Nat} {s s':Zh} {S:List Nat} {r r':Yu}
def RDid (w:W) (q:RP) (a b:Nat) (x:Z8) (s:Zh) (e:Ending) (w':W):Prop:=e=R_ (.tuple #[])/\Qv w q a b x s w'
def RRun (w:W) (q:RP) (a b:Nat) (x:Z8) (s:Zh) (e:Ending) (w':W):Prop:=∃ v,RDid w q a b (x.run s v).1 (x.run s v).2 e w'
theorem Lc {r:Yu} (hr:x.read=I r) (v:Nat):x.run s v=x.zl r s:=by unfold Z8.run;rw [hr]
theorem Lb {v:Nat} {cl:Int} {xx:Nat} {fs:Bool} (hr:x.read=O) (hA:(⟨1,cl,xx,fs⟩:Xh)=(x.m.step v).2):x.run s v=Z8.zl {x with m:=(x.m.step v).1} (Xu x.c0 x.c1 cl x.qh.st) s:=by
 unfold Z8.run;rw [hr,<-hA];rfl
theorem run_end {v:Nat} {cl:Int} {xx:Nat} {fs:Bool} (hr:x.read=O) (hA:(⟨4,cl,xx,fs⟩:Xh)=(x.m.step v).2):x.run s v=({x with m:=(x.m.step v).1,part:=3},s):=by
 unfold Z8.run;rw [hr,<-hA];rfl
theorem run_on {v:Nat} {kd cl:Int} {xx:Nat} {fs:Bool} (hr:x.read=O) (hA:(⟨kd,cl,xx,fs⟩:Xh)=(x.m.step v).2) (h1:kd≠1) (h4:kd≠4):x.run s v=({x with m:=(x.m.step v).1},s):=by
 unfold Z8.run;rw [hr,<-hA];simp only [h1,h4,if_false]
theorem Lv (h:r.qf s=false):x.zl r s=({x with read:=I (r.next s)},r.mem s):=by unfold Z8.zl;rw [h];rfl
theorem Tf (h:r.qf s=true):x.zl r s=({x with m:=x.m.xl (r.next s).value,read:=O},r.mem s):=by unfold Z8.zl;rw [h];rfl
theorem Fm {m:Zk} (o:Ym m):m.reads.length<=4096:=by
 have h1:=o.reads;have h2:=o.xk;have h3:=o.fuel;split at h1 <;> omega
theorem run_some (h:Qv w q a b x s w1) (hr:x.read=I r) (hi:r.Inv) (o:Ym x.m) (hw:x.m.waits=true):Calls N 238 #[E (I ⟨q.k,0,O⟩),E (I ⟨a,0,O⟩)] w1 (RRun w q a b x s):=by
 have HI:=Zh_ hi;have HW:=Zh_ hw;have HOK:=Zh_ o;have HR:=Zh_ (Fm o);have HRD:=Zh_ hr;have G2:Qv w q a b {x with read:=I r} s w1:=by
  have e:x={x with read:=I r}:=by cases x;simp at hr ⊢;exact hr
  exact e ▸ h
 obtain ⟨k0,-,c13a,f13a,-⟩:=h.read hr;have hlt:=h.lt;clear hi hw o hr h;go_enter func238,ntmps238;go_upto_region 6 with fail;clear c13a f13a hlt;obtain ⟨k,hk,c13,f13,hput⟩:=G2.read J;have hL:=Wk G2.xe _ HI.out hk;have hlt:=G2.lt;have HPUT:=Zh_ hput;clear hput hk G2;obtain ⟨z,hz⟩:∃ z,z=r.qf s:=⟨_,J⟩;rw [<-hz] at hL;have HZ:=Zh_ hz;clear hz;cases z
 ·go_wp2_with fail;refine hL.mono ?_;rintro e w5 ⟨rfl,M5,k5,m5⟩;obtain ⟨G5,-⟩:=HPUT.out _ _ _ M5 k5 m5;have G5:=Zh_ G5;clear M5 k5 m5 hL HPUT c13 f13;go_wp2;go_end0;refine ⟨0,?_⟩;rw [Lc HRD.out,Lv HZ.out.symm];exact ⟨J,G5.out⟩
 ·go_wp2_with fail;refine hL.mono ?_;rintro e w5 ⟨rfl,M5,k5,m5⟩;obtain ⟨G5,c13'⟩:=HPUT.out _ _ _ M5 k5 m5;have hM5:=G5.xe;obtain ⟨p5,hm5,hmb5,hput5⟩:=G5.za;have hc:=Ab (hm5.mod ((Zr_ [] _).drew) (by simp)) HW.out (HOK.out.room HW.out) HR.out (r.next s).value;rw [hmb5] at hc;have c6:=(G5.cell 6 (u:=E (I ⟨q.p.mb,0,O⟩)) (λ r hm _=>by rw [<-hm];rfl)).1;have hlt:=G5.lt;have HK5:=Zh_ (show w5.drew.heap[k]? =I (.cells (r.next s).arr 287 (0,0)) from k5);have HP5:=Zh_ (λ w' m (d:Zl w5.drew p5 m w')=>hput5 w' m (d.pre ((Zr_ _ _).drew)));have C13:=Zh_ c13';clear G5 M5 k5 m5 hL HPUT c13 f13 hm5 hmb5 hput5 hM5;go_upto_region 8 with fail
  go_cut [64] (λ _ wx=>Qv w q a b {x with m:=(x.m).xl (r.next s).value,read:=I (r.next s)} (r.mem s) wx)
  case first=>
   go_region_held3 (λ wx=>wx.cell? ⟨q.k,6,O⟩=I (E (I ⟨q.p.mb,0,O⟩))/\wx.cell? ⟨q.k,13,O⟩=I (E (I ⟨k,0,O⟩))) (first|exact ⟨c6,c13'⟩|exact ⟨d6,d13⟩)
    (first
     |(go_at_call 242;refine (C9 _ HK5.out).mono ?_;rintro e w6 ⟨rfl,hw6⟩;have hw6':=hw6.symm;subst hw6')
     |(go_at_call 110;refine hc.mono ?_;rintro e w6 ⟨rfl,D6⟩;have G6:=Zh_ (HP5.out _ _ D6).1;have d13:=((HP5.out _ _ D6).2 13).trans C13.out;have d6:=(G6.out.cell 6 (u:=E (I ⟨q.p.mb,0,O⟩)) (λ r hm _=>by rw [<-hm];rfl)).1;clear D6))
   all_goals
    go_wp2_with fail;go_meet;exact G6.out
  case rest=>
   obtain ⟨k9,-,c13,f13,-⟩:=hcut.read J;have hlt:=hcut.lt;have G7:=Zh_ hcut.ya;clear hcut HP5 HK5 hc c6 c13';go_wp2;go_end0;refine ⟨0,?_⟩;rw [Lc HRD.out,Tf HZ.out.symm];exact ⟨J,G7.out⟩
theorem Sh (c0 c1 c st:Int):(Xu c0 c1 c st).Inv:=⟨by simp [Xu],by simp [Xu]⟩
theorem run_none (h:Qv w q a b x s w1) (hr:x.read=O) (hp:x.part=2) (o:Ym x.m):Calls N 238 #[E (I ⟨q.k,0,O⟩),E (I ⟨a,0,O⟩)] w1 (RRun w q a b x s):=by
 have HRD:=Zh_ hr;have HP:=Zh_ hp;obtain ⟨p,hm,hmb,hput⟩:=h.za;have c6:=(h.cell 6 (u:=E (I ⟨q.p.mb,0,O⟩)) (λ r hm _=>by rw [<-hm];rfl)).1;obtain ⟨c13,-⟩:=h.yf hr;have hc:=step_c hm o;rw [hmb] at hc;have hlt:=h.lt;have HPUT:=Zh_ hput;clear hput hm hmb hr hp h;go_enter func238,ntmps238;go_wp2_with fail;refine hc.mono ?_;rintro e w2 ⟨v,he,D2⟩;obtain ⟨⟨kd,cl,xx,fs⟩,hA⟩:∃ A,A=(x.m.step v).2:=⟨_,J⟩;rw [<-hA] at he;replace he:e=R_ (A_ #[U Y kd,U Y cl,Z V xx,.bool fs]):=he;subst he;obtain ⟨G2,-⟩:=HPUT.out _ _ D2;clear c6 c13 D2 hc HPUT;have hlt:=G2.lt;have HA:=Zh_ hA;clear hA;have H2:=Zh_ G2;clear G2
 by_cases k4:kd=4
 ·subst k4;have c9:=(H2.out.cell 9 (u:=U Y x.part) (λ _ _ _=>J)).1;have f9:=(H2.out.cell 9 (u:=U Y x.part) (λ _ _ _=>J)).2;go_wp2;go_end0;refine ⟨v,?_⟩;rw [run_end HRD.out HA.out];exact ⟨J,(Qv.jk (x':={x with m:=(x.m.step v).1,part:=3}) H2.out 9 _ (λ _=>J) J J J J).alloc _⟩
 ·have d4:(kd==4)=false:=by simp [k4]
  by_cases k1:kd=1
  ·subst k1;go_upto_region 5 with fail;have BL:=Zh_ (Zc w2 (X #[U Y 1,U Y cl,Z V xx,.bool fs] 152));have G3:=H2.out.alloc (X #[U Y 1,U Y cl,Z V xx,.bool fs] 152);clear H2 hlt;generalize w2.alloc (X #[U Y 1,U Y cl,Z V xx,.bool fs] 152)=w3 at *
   generalize w2.heap.size=g at *
   have c0:=(G3.cell 0 (u:=U Y 0) (λ _ _ _=>J)).1;have c1:=(G3.cell 1 (u:=U Y 1) (λ _ _ _=>J)).1;have c2:=(G3.cell 2 (u:=U Y 2) (λ _ _ _=>J)).1;have c3:=(G3.cell 3 (u:=U Y 3) (λ _ _ _=>J)).1;have c4:=(G3.cell 4 (u:=U Y (Z2 x.c1)) (λ _ _ _=>J)).1;have c5:=(G3.cell 5 (u:=U Y (Zw x.c0 x.c1)) (λ _ _ _=>J)).1;have c12:=(G3.cell 12 (u:=E (I ⟨q.cm,0,O⟩)) (λ r _ hc=>by rw [<-hc];rfl)).1;obtain ⟨c13,f13⟩:=G3.yf HRD.out;have g1:=Za (i:=1) BL.out J;have hgl:=B9 BL.out;have hlt:=G3.lt;have hsz:=G3.size;have KC:=Zh_ (show w3.drew.heap[q.cm]? =I (.cells x.qh.arr 189 (0,0)) from G3.uy.1);have HGK:=Zh_ (show q.k≠g from λ e=>by
    obtain ⟨r,h1,_,_,h4,_⟩:=G3;have t:=Zp BL.out;rw [<-e,<-h4,Zp h1.hd] at t;exact absurd t (by decide))
   have H3:=Zh_ G3;clear G3
   go_cut [41] (λ _ wx=>Qv w q a b {x with m:=(x.m.step v).1,read:=I (Xu x.c0 x.c1 cl x.qh.st)} s wx)
   case first=>
    go_region_held3 (λ wx=>wx.cell? ⟨q.k,0,O⟩=I (U Y 0)/\wx.cell? ⟨q.k,1,O⟩=I (U Y 1)/\wx.cell? ⟨q.k,2,O⟩=I (U Y 2)/\wx.cell? ⟨q.k,3,O⟩=I (U Y 3)/\wx.cell? ⟨q.k,4,O⟩=I (U Y (Z2 x.c1))/\wx.cell? ⟨q.k,5,O⟩=I (U Y (Zw x.c0 x.c1))/\wx.cell? ⟨q.k,12,O⟩=I (E (I ⟨q.cm,0,O⟩))/\wx.cell? ⟨g,1,O⟩=I (U Y cl)) (first|exact ⟨c0,c1,c2,c3,c4,c5,c12,g1⟩|exact ⟨d0,d1,d2,d3,d4,d5,d12,e1⟩|exact ⟨Yw d0 (Qf (by decide)),Yw d1 (Qf (by decide)),Yw d2 (Qf (by decide)),Yw d3 (Qf (by decide)),Yw d4 (Qf (by decide)),Yw d5 (Qf (by decide)),Yw d12 (Qf (by decide)),Yw e1 (Dr HGK.out)⟩)
     (first
      |(go_at_call 236;refine (L6 _ KC.out).mono ?_;rintro e w4 ⟨rfl,hw4⟩;have hw4':=hw4.symm;subst hw4')
      |(go_at_call 240;refine (read11 0 1 2 3 (Z2 x.c1) (Zw x.c0 x.c1) cl x.qh.st _).mono ?_;rintro e w4 ⟨k4,rfl,B4,s4,m4⟩;have D4:Ze [] w3 w4:=((Zr_ [] _).drew).trans m4;have G4:=Zh_ (H3.out.xi D4);obtain ⟨d13,e13⟩:=G4.out.yf HRD.out;have hlt4:=G4.out.lt;have B4:=Zh_ B4;have d0:=(G4.out.cell 0 (u:=U Y 0) (λ _ _ _=>J)).1;have d1:=(G4.out.cell 1 (u:=U Y 1) (λ _ _ _=>J)).1;have d2:=(G4.out.cell 2 (u:=U Y 2) (λ _ _ _=>J)).1;have d3:=(G4.out.cell 3 (u:=U Y 3) (λ _ _ _=>J)).1;have d4:=(G4.out.cell 4 (u:=U Y (Z2 x.c1)) (λ _ _ _=>J)).1;have d5:=(G4.out.cell 5 (u:=U Y (Zw x.c0 x.c1)) (λ _ _ _=>J)).1;have d12:=(G4.out.cell 12 (u:=E (I ⟨q.cm,0,O⟩)) (λ r _ hc=>by rw [<-hc];rfl)).1;have e1:=Za (i:=1) (D4.at BL.out (by simp)) J;clear m4))
    all_goals
     go_wp2_with fail;go_meet;exact G4.out.uo (r':=(Xu x.c0 x.c1 cl x.qh.st)) B4.out (Nat.le_trans hsz s4)
   case rest=>
    have G2:=hcut;have HI:=Zh_ (Sh x.c0 x.c1 cl x.qh.st);have o':=Dc o v;have hw:(x.m.step v).1.waits=true:=Mw x.m v (by rw [<-HA.out]);have HW:=Zh_ hw;have HOK:=Zh_ o';have HR:=Zh_ (Fm o');clear hcut c0 c1 c2 c3 c4 c5 c12 c13 f13 g1 hgl hlt hsz KC HGK H3 hw o' o;obtain ⟨k,hk,c13,f13,hput⟩:=G2.read J;have hL:=Wk G2.xe _ HI.out hk;have hlt:=G2.lt;have HPUT:=Zh_ hput;clear hput hk G2;obtain ⟨z,hz⟩:∃ z,z=(Xu x.c0 x.c1 cl x.qh.st).qf s:=⟨_,J⟩;rw [<-hz] at hL;have HZ:=Zh_ hz;clear hz;cases z
    ·go_wp2_with fail;refine hL.mono ?_;rintro e w5 ⟨rfl,M5,k5,m5⟩;obtain ⟨G5,-⟩:=HPUT.out _ _ _ M5 k5 m5;have G5:=Zh_ G5;clear M5 k5 m5 hL HPUT c13 f13;go_wp2;go_end0;refine ⟨v,?_⟩;rw [Lb HRD.out HA.out,Lv HZ.out.symm];exact ⟨J,G5.out⟩
    ·go_wp2_with fail;refine hL.mono ?_;rintro e w5 ⟨rfl,M5,k5,m5⟩;obtain ⟨G5,c13'⟩:=HPUT.out _ _ _ M5 k5 m5;have hM5:=G5.xe;obtain ⟨p5,hm5,hmb5,hput5⟩:=G5.za;have hc:=Ab (hm5.mod ((Zr_ [] _).drew) (by simp)) HW.out (HOK.out.room HW.out) HR.out ((Xu x.c0 x.c1 cl x.qh.st).next s).value;rw [hmb5] at hc;have c6:=(G5.cell 6 (u:=E (I ⟨q.p.mb,0,O⟩)) (λ r hm _=>by rw [<-hm];rfl)).1;have hlt:=G5.lt;have HK5:=Zh_ (show w5.drew.heap[k]? =I (.cells ((Xu x.c0 x.c1 cl x.qh.st).next s).arr 287 (0,0)) from k5);have HP5:=Zh_ (λ w' m (d:Zl w5.drew p5 m w')=>hput5 w' m (d.pre ((Zr_ _ _).drew)));have C13:=Zh_ c13';clear G5 M5 k5 m5 hL HPUT c13 f13 hm5 hmb5 hput5 hM5;go_upto_region 8 with fail
     go_cut [64] (λ _ wx=>Qv w q a b {x with m:=((x.m.step v).1).xl ((Xu x.c0 x.c1 cl x.qh.st).next s).value,read:=I ((Xu x.c0 x.c1 cl x.qh.st).next s)} ((Xu x.c0 x.c1 cl x.qh.st).mem s) wx)
     case first=>
      go_region_held3 (λ wx=>wx.cell? ⟨q.k,6,O⟩=I (E (I ⟨q.p.mb,0,O⟩))/\wx.cell? ⟨q.k,13,O⟩=I (E (I ⟨k,0,O⟩))) (first|exact ⟨c6,c13'⟩|exact ⟨d6,d13⟩)
       (first
        |(go_at_call 242;refine (C9 _ HK5.out).mono ?_;rintro e w6 ⟨rfl,hw6⟩;have hw6':=hw6.symm;subst hw6')
        |(go_at_call 110;refine hc.mono ?_;rintro e w6 ⟨rfl,D6⟩;have G6:=Zh_ (HP5.out _ _ D6).1;have d13:=((HP5.out _ _ D6).2 13).trans C13.out;have d6:=(G6.out.cell 6 (u:=E (I ⟨q.p.mb,0,O⟩)) (λ r hm _=>by rw [<-hm];rfl)).1;clear D6))
      all_goals
       go_wp2_with fail;go_meet;exact G6.out
     case rest=>
      obtain ⟨k9,-,c13,f13,-⟩:=hcut.read J;have hlt:=hcut.lt;have G7:=Zh_ hcut.ya;clear hcut HP5 HK5 hc c6 c13';go_wp2;go_end0;refine ⟨v,?_⟩;rw [Lb HRD.out HA.out,Tf HZ.out.symm];exact ⟨J,G7.out⟩
  ·have d1:(kd==1)=false:=by simp [k1]
   have d1':(kd !=1)=true:=by simp [k1]
   go_wp2;go_end0;refine ⟨v,?_⟩;rw [run_on HRD.out HA.out k1 k4];exact ⟨J,H2.out.alloc _⟩
end
section
attribute [local go_sem] Zi
variable {w w' w0 w1 w2:W} {p p':MP} {q q':RP} {x x':Z8} {m:Zk} {a b:Nat} {s s':Zh} {S:List Nat} {r r':Yu}
structure Rk (x:Z8):Prop where
 p1:1<=x.part
 p3:x.part<=3
 m:Ym x.m
 qh:x.qh.Inv
 read:∀ r,x.read=I r->r.Inv/\x.m.waits=true
def Ck (w:W) (q:RP) (a b:Nat) (x:Z8) (s:Zh) (e:Ending) (w':W):Prop:=
 ∃ v,e=R_ (.tuple #[.bool ((x.step s.opened v).1.part==4),U Y 0])/\Qv w q a b (x.step s.opened v).1 (x.step s.opened v).2 w'
theorem rstep_1 (h:Yc w q x) (hM:Zj 137 w a b s) (ok:Rk x) (hp:x.part=1) (hlen:Zw x.c0 x.c1<=s.ws.length):Calls N 234 #[E (I ⟨q.k,0,O⟩),E (I ⟨a,0,O⟩)] w (Ck w q a b x s):=by
 have H0:=Qv.same h hM;have c5:=(H0.cell 5 (u:=U Y (Zw x.c0 x.c1)) (λ _ _ _=>J)).1;have hlt:=H0.lt;have dl:decide ((s.ws.length:Int) < Zw x.c0 x.c1)=false:=D9 (by omega);have H:=Zh_ H0;have hM:=hM.drew;clear H0 h hlen;obtain ⟨p5,hp5⟩:∃ z,z=Zw x.c0 x.c1:=⟨_,J⟩;rw [<-hp5] at c5 dl;have HP5:=Zh_ hp5;clear hp5;go_enter func234,ntmps234;go_upto_region 1 with fail
 go_cut [16] (λ A wx=>A=.bool false/\Qv w q a b x s wx)
 case first=>
  go_region_held3 (λ wx=>wx.cell? ⟨q.k,5,O⟩=I (U Y p5)) (first|exact c5|exact d5)
   (first|(go_at_call 61;refine (Ge hM).mono ?_;rintro e w2 ⟨rfl,M2,m2⟩;have G2:=Zh_ (H.out.drew.xd M2 m2);have d5:=(G2.out.cell 5 (u:=U Y p5) (λ _ _ _=>by rw [HP5.out];rfl)).1))
  all_goals
   go_wp2_with fail;go_meet;exact ⟨J,G2.out⟩
 case rest=>
  obtain ⟨rfl,G2⟩:=hcut;clear c5 hM hlt dl;have c9:=(G2.cell 9 (u:=U Y x.part) (λ _ _ _=>J)).1;rw [hp] at c9;have hlt:=G2.lt;have hM:=G2.xe;have G2:=Zh_ G2;have OK:=Zh_ ok;have HP:=Zh_ hp;clear ok hp H;go_wp2_with fail;refine (U8 hM).mono ?_;rintro e w3 ⟨rfl,M3,m3⟩;have G3:=G2.out.xd M3 m3;obtain ⟨u10,c10,f10⟩:=G3.xu;have c9:=(G3.cell 9 (u:=U Y x.part) (λ _ _ _=>J)).1;have f9:=(G3.cell 9 (u:=U Y x.part) (λ _ _ _=>J)).2;rw [HP.out] at c9;have c12:=(G3.cell 12 (u:=E (I ⟨q.cm,0,O⟩)) (λ r _ hc=>by rw [<-hc];rfl)).1;have hlt:=G3.lt;have G6:=Zh_ (G3.kg (wrap64 (u10+1)));have G3:=Zh_ G3;clear M3 m3 hM G2;have hL:=Im (w:=w3.setCell ⟨q.k,10,O⟩ (U Y (wrap64 (u10+1)))) G6.out.xe x.qh OK.out.qh G6.out.uy.1;obtain ⟨v,hv⟩:∃ v:Nat,v=0:=⟨_,J⟩;clear hv;have hs:x.step s.opened v=({x with qh:=x.qh.next s.opened,part:=if x.qh.qf s.opened=true then 2 else 1},x.qh.mem s.opened):=by unfold Z8.step;rw [HP.out];simp
  obtain ⟨z,hz⟩:∃ z,z=x.qh.qf s.opened:=⟨_,J⟩;rw [<-hz] at hL hs;clear hz;cases z
  ·have HV:=Zh_ (show (x.step s.opened v).1={x with qh:=x.qh.next s.opened} from by rw [hs];have:=HP.out;cases x;simp at this ⊢;exact this.symm);have HV2:=Zh_ (show (x.step s.opened v).2=x.qh.mem s.opened from by rw [hs]);clear hs;go_wp2_with fail;refine hL.mono ?_;rintro e w7 ⟨rfl,M7,k7,m7⟩;have G7:=G6.out.uy.2 _ _ _ M7 k7 m7;clear c9 f9 c10 f10 c12 M7 k7 m7 hL G3 G6;have c9:=(G7.cell 9 (u:=U Y x.part) (λ _ _ _=>J)).1;rw [HP.out] at c9;have hlt:=G7.lt;have R7:=Zh_ G7;clear G7;go_wp2;go_ret2;exact ⟨v,by rw [HV.out];show _=Ending.returned (.tuple #[.bool (x.part==4),U Y 0]);rw [HP.out];rfl,by rw [HV.out,HV2.out];exact R7.out⟩
  ·have HV:=Zh_ (show (x.step s.opened v).1={x with qh:=x.qh.next s.opened,part:=2} from by rw [hs];rfl);have HV2:=Zh_ (show (x.step s.opened v).2=x.qh.mem s.opened from by rw [hs]);clear hs;go_wp2_with fail;refine hL.mono ?_;rintro e w7 ⟨rfl,M7,k7,m7⟩;have G7:=G6.out.uy.2 _ _ _ M7 k7 m7;clear c9 f9 c10 f10 c12 M7 k7 m7 hL G3 G6;have c9:=(G7.cell 9 (u:=U Y x.part) (λ _ _ _=>J)).1;have f9:=(G7.cell 9 (u:=U Y x.part) (λ _ _ _=>J)).2;rw [HP.out] at c9;have hlt:=G7.lt;have R7:=Zh_ (Qv.jk (x':={x with qh:=x.qh.next s.opened,part:=2}) G7 9 (U Y 2) (λ _=>J) J J J J);clear G7;go_wp2;go_ret2;exact ⟨v,by rw [HV.out];rfl,by rw [HV.out,HV2.out];exact R7.out⟩
theorem rstep_2 (h:Yc w q x) (hM:Zj 137 w a b s) (ok:Rk x) (hp:x.part=2) (hlen:Zw x.c0 x.c1<=s.ws.length):Calls N 234 #[E (I ⟨q.k,0,O⟩),E (I ⟨a,0,O⟩)] w (Ck w q a b x s):=by
 have H0:=Qv.same h hM;have c5:=(H0.cell 5 (u:=U Y (Zw x.c0 x.c1)) (λ _ _ _=>J)).1;have hlt:=H0.lt;have dl:decide ((s.ws.length:Int) < Zw x.c0 x.c1)=false:=D9 (by omega);have H:=Zh_ H0;have hM:=hM.drew;clear H0 h hlen;obtain ⟨p5,hp5⟩:∃ z,z=Zw x.c0 x.c1:=⟨_,J⟩;rw [<-hp5] at c5 dl;have HP5:=Zh_ hp5;clear hp5;go_enter func234,ntmps234;go_upto_region 1 with fail
 go_cut [16] (λ A wx=>A=.bool false/\Qv w q a b x s wx)
 case first=>
  go_region_held3 (λ wx=>wx.cell? ⟨q.k,5,O⟩=I (U Y p5)) (first|exact c5|exact d5)
   (first|(go_at_call 61;refine (Ge hM).mono ?_;rintro e w2 ⟨rfl,M2,m2⟩;have G2:=Zh_ (H.out.drew.xd M2 m2);have d5:=(G2.out.cell 5 (u:=U Y p5) (λ _ _ _=>by rw [HP5.out];rfl)).1))
  all_goals
   go_wp2_with fail;go_meet;exact ⟨J,G2.out⟩
 case rest=>
  obtain ⟨rfl,G2⟩:=hcut;clear c5 hM hlt dl;have c9:=(G2.cell 9 (u:=U Y x.part) (λ _ _ _=>J)).1;rw [hp] at c9;have hlt:=G2.lt;have hM:=G2.xe;have G2:=Zh_ G2;have OK:=Zh_ ok;have HP:=Zh_ hp;clear ok hp H;go_wp2_with fail;refine (U8 hM).mono ?_;rintro e w3 ⟨rfl,M3,m3⟩;have G3:=G2.out.xd M3 m3;obtain ⟨u10,c10,f10⟩:=G3.xu;have c9:=(G3.cell 9 (u:=U Y x.part) (λ _ _ _=>J)).1;have f9:=(G3.cell 9 (u:=U Y x.part) (λ _ _ _=>J)).2;rw [HP.out] at c9;have hlt:=G3.lt;have G6:=Zh_ (G3.kg (wrap64 (u10+1)));have G3:=Zh_ G3;clear M3 m3 hM G2;go_wp2_with fail;obtain ⟨v,hv⟩:∃ v:Nat,v=0:=⟨_,J⟩;clear hv v;have hrun:Calls N 238 #[E (I ⟨q.k,0,O⟩),E (I ⟨a,0,O⟩)] (w3.setCell ⟨q.k,10,O⟩ (U Y (wrap64 (u10+1)))) (RRun w q a b x s.opened):=by
   rcases hr:x.read with _|r
   ·exact run_none G6.out hr HP.out OK.out.m
   ·exact run_some G6.out hr (OK.out.read r hr).1 OK.out.m (OK.out.read r hr).2
  refine hrun.mono ?_;rintro e w7 ⟨v,rfl,G7⟩;clear hrun;have hs:x.step s.opened v=x.run s.opened v:=by unfold Z8.step;rw [HP.out];simp
  obtain ⟨y,hy⟩:∃ y,y=(x.run s.opened v).1:=⟨_,J⟩;obtain ⟨s',hs'⟩:∃ z,z=(x.run s.opened v).2:=⟨_,J⟩;rw [<-hy,<-hs'] at G7;have HV:=Zh_ (show (x.step s.opened v).1=y from by rw [hs,hy]);have HV2:=Zh_ (show (x.step s.opened v).2=s' from by rw [hs,hs']);clear hs hy hs';have hlt:=G7.lt;clear c9 f9 c10 f10 G6 G3;have c9:=(G7.cell 9 (u:=U Y y.part) (λ _ _ _=>J)).1;have R7:=Zh_ G7;clear G7;go_wp2;go_ret2;exact ⟨v,by rw [HV.out];rfl,by rw [HV.out,HV2.out];exact R7.out⟩
theorem rstep_3 (h:Yc w q x) (hM:Zj 137 w a b s) (ok:Rk x) (hp:x.part=3) (hlen:Zw x.c0 x.c1<=s.ws.length):Calls N 234 #[E (I ⟨q.k,0,O⟩),E (I ⟨a,0,O⟩)] w (Ck w q a b x s):=by
 have H0:=Qv.same h hM;have c5:=(H0.cell 5 (u:=U Y (Zw x.c0 x.c1)) (λ _ _ _=>J)).1;have hlt:=H0.lt;have dl:decide ((s.ws.length:Int) < Zw x.c0 x.c1)=false:=D9 (by omega);have H:=Zh_ H0;have hM:=hM.drew;clear H0 h hlen;obtain ⟨p5,hp5⟩:∃ z,z=Zw x.c0 x.c1:=⟨_,J⟩;rw [<-hp5] at c5 dl;have HP5:=Zh_ hp5;clear hp5;go_enter func234,ntmps234;go_upto_region 1 with fail
 go_cut [16] (λ A wx=>A=.bool false/\Qv w q a b x s wx)
 case first=>
  go_region_held3 (λ wx=>wx.cell? ⟨q.k,5,O⟩=I (U Y p5)) (first|exact c5|exact d5)
   (first|(go_at_call 61;refine (Ge hM).mono ?_;rintro e w2 ⟨rfl,M2,m2⟩;have G2:=Zh_ (H.out.drew.xd M2 m2);have d5:=(G2.out.cell 5 (u:=U Y p5) (λ _ _ _=>by rw [HP5.out];rfl)).1))
  all_goals
   go_wp2_with fail;go_meet;exact ⟨J,G2.out⟩
 case rest=>
  obtain ⟨rfl,G2⟩:=hcut;clear c5 hM hlt dl;have c9:=(G2.cell 9 (u:=U Y x.part) (λ _ _ _=>J)).1;rw [hp] at c9;have hlt:=G2.lt;have hM:=G2.xe;have G2:=Zh_ G2;have OK:=Zh_ ok;have HP:=Zh_ hp;clear ok hp H;go_wp2_with fail;refine (U8 hM).mono ?_;rintro e w3 ⟨rfl,M3,m3⟩;have G3:=G2.out.xd M3 m3;obtain ⟨u10,c10,f10⟩:=G3.xu;have c9:=(G3.cell 9 (u:=U Y x.part) (λ _ _ _=>J)).1;have f9:=(G3.cell 9 (u:=U Y x.part) (λ _ _ _=>J)).2;rw [HP.out] at c9;have c0:=(G3.cell 0 (u:=U Y 0) (λ _ _ _=>J)).1;have c1:=(G3.cell 1 (u:=U Y 1) (λ _ _ _=>J)).1;have c2:=(G3.cell 2 (u:=U Y 2) (λ _ _ _=>J)).1;have c3:=(G3.cell 3 (u:=U Y 3) (λ _ _ _=>J)).1;have c4:=(G3.cell 4 (u:=U Y (Z2 x.c1)) (λ _ _ _=>J)).1;have c5:=(G3.cell 5 (u:=U Y (Zw x.c0 x.c1)) (λ _ _ _=>J)).1;have c11:=(G3.cell 11 (u:=U Y x.thread) (λ _ _ _=>J)).1;have hlt:=G3.lt;have G6:=Zh_ (G3.kg (wrap64 (u10+1)));have G3:=Zh_ G3;clear M3 m3 hM G2;obtain ⟨v,hv⟩:∃ v:Nat,v=0:=⟨_,J⟩;clear hv;have hs:x.step s.opened v=({x with part:=4},s.opened.leave 3 x.thread):=by unfold Z8.step;rw [HP.out];simp
  have HV:=Zh_ (show (x.step s.opened v).1={x with part:=4} from by rw [hs]);have HV2:=Zh_ (show (x.step s.opened v).2=s.opened.leave 3 x.thread from by rw [hs]);clear hs;go_upto_region 15 with fail;clear c0 c1 c2 c3 c4 c5 c11 c9 f9 c10 f10 hlt G3;generalize w3.setCell ⟨q.k,10,O⟩ (U Y (wrap64 (u10+1)))=w4 at *
  have c0:=(G6.out.cell 0 (u:=U Y 0) (λ _ _ _=>J)).1;have c1:=(G6.out.cell 1 (u:=U Y 1) (λ _ _ _=>J)).1;have c2:=(G6.out.cell 2 (u:=U Y 2) (λ _ _ _=>J)).1;have c3:=(G6.out.cell 3 (u:=U Y 3) (λ _ _ _=>J)).1;have c4:=(G6.out.cell 4 (u:=U Y (Z2 x.c1)) (λ _ _ _=>J)).1;have c5:=(G6.out.cell 5 (u:=U Y (Zw x.c0 x.c1)) (λ _ _ _=>J)).1;have c11:=(G6.out.cell 11 (u:=U Y x.thread) (λ _ _ _=>J)).1;have hlt:=G6.out.lt;have hL:=leave_c G6.out.xe.drew 0 1 2 3 (Z2 x.c1) (Zw x.c0 x.c1) x.thread
  go_cut [72] (λ _ wx=>Qv w q a b x (s.opened.leave 3 x.thread) wx)
  case first=>
   go_region_held3 (λ wx=>wx.cell? ⟨q.k,0,O⟩=I (U Y 0)/\wx.cell? ⟨q.k,1,O⟩=I (U Y 1)/\wx.cell? ⟨q.k,2,O⟩=I (U Y 2)/\wx.cell? ⟨q.k,3,O⟩=I (U Y 3)/\wx.cell? ⟨q.k,4,O⟩=I (U Y (Z2 x.c1))/\wx.cell? ⟨q.k,5,O⟩=I (U Y (Zw x.c0 x.c1))/\wx.cell? ⟨q.k,11,O⟩=I (U Y x.thread)) (first|exact ⟨c0,c1,c2,c3,c4,c5,c11⟩|exact ⟨d0,d1,d2,d3,d4,d5,d11⟩)
    (first|(go_at_call 239;refine hL.mono ?_;rintro e w7 ⟨rfl,M7,m7⟩;have G7:=Zh_ (G6.out.drew.xd M7 m7);have d0:=(G7.out.cell 0 (u:=U Y 0) (λ _ _ _=>J)).1;have d1:=(G7.out.cell 1 (u:=U Y 1) (λ _ _ _=>J)).1;have d2:=(G7.out.cell 2 (u:=U Y 2) (λ _ _ _=>J)).1;have d3:=(G7.out.cell 3 (u:=U Y 3) (λ _ _ _=>J)).1;have d4:=(G7.out.cell 4 (u:=U Y (Z2 x.c1)) (λ _ _ _=>J)).1;have d5:=(G7.out.cell 5 (u:=U Y (Zw x.c0 x.c1)) (λ _ _ _=>J)).1;have d11:=(G7.out.cell 11 (u:=U Y x.thread) (λ _ _ _=>J)).1))
   all_goals
    go_wp2_with fail;go_meet;exact G7.out
  case rest=>
   clear c0 c1 c2 c3 c4 c5 c11 hlt hL G6;have G7:=hcut;clear hcut;have c9:=(G7.cell 9 (u:=U Y x.part) (λ _ _ _=>J)).1;have f9:=(G7.cell 9 (u:=U Y x.part) (λ _ _ _=>J)).2;rw [HP.out] at c9;have hlt:=G7.lt;have R7:=Zh_ (Qv.jk (x':={x with part:=4}) G7 9 (U Y 4) (λ _=>J) J J J J);clear G7;go_wp2;go_ret2;exact ⟨v,by rw [HV.out];rfl,by rw [HV.out,HV2.out];exact R7.out⟩
theorem Eg (h:Yc w q x) (hM:Zj 137 w a b s) (ok:Rk x) (hlen:Zw x.c0 x.c1<=s.ws.length):Calls N 234 #[E (I ⟨q.k,0,O⟩),E (I ⟨a,0,O⟩)] w (Ck w q a b x s):=by
 have hh:x.part=1\/x.part=2\/x.part=3:=by have:=ok.p1;have:=ok.p3;omega
 rcases hh with hp|hp|hp
 ·exact rstep_1 h hM ok hp hlen
 ·exact rstep_2 h hM ok hp hlen
 ·exact rstep_3 h hM ok hp hlen
end
end Go.Proofs.YtkhonmhnchdpkaaGreat
