/- A part of the proof; no condition. -/
import Derived.Test.YtkhonmhnchdpkaaGreatB03
import Derived.Defers
import Derived.Recover
import Derived.Laws.Pointers
set_option maxRecDepth 100000
set_option maxHeartbeats 40000000
namespace Go.Proofs.YtkhonmhnchdpkaaGreat
open Go.RowKit _root_.Go.Proofs.Tryz
open Go renaming World→W
open Value renaming int→U,pointer→E,slice→L,float→Z,agg→A9
open IntKind renaming i64→Y,u64→Y9
open FloatKind renaming f64→V
open Obj renaming cells→X
open Option renaming some→I,none→O
open Ending renaming returned→R9
open _root_.Go.Proofs.Tryz renaming prog→N
section
attribute [local go_sem] Zi
variable {w w' w0:W} {p p':MP} {s s':Zk}
theorem reckon5 (h:Zg w p s) (n:Int) (x:Nat) (hn:0<=n) (hl:n < s.qd.length) (hb:s.qd.length < 64):Calls N 167 #[E (I ⟨p.mb,0,O⟩),A9 #[U Y 5,U Y n,Z V x]] w (Jm w p s ⟨5,n,x⟩):=by
 obtain ⟨n,rfl⟩:∃ k:Nat,n=k:=⟨n.toNat,by omega⟩;have D0:Zl (w.alloc (X #[U Y 5,U Y n,Z V x] 106)) p s (w.alloc (X #[U Y 5,U Y n,Z V x] 106)):=.same (h.alloc _);have hlt:=B9 h.hd;have r23:=(h.cell 23 (u:=E (I ⟨p.nb,0,O⟩)) J).1;have hp:=λ m=>V5 ((h.qd.mod ((Zr_ [] w).alloc (X #[U Y 5,U Y n,Z V x] 106)) (by simp) (by simp)).drewN m) n (by omega) (by omega);rw [show s.qd.getD (s.qd.length - 1 - n) 0=s.pick n from J] at hp;clear h;go_enter func167,ntmps167;go_wp2_with fail;go_quiet ((go_at_call 175;exact Calls.quiet_of (hp _)));have D1:=D0.xm nq;clear hp D0;go_wp2_with fail;refine (Y5 D1 (show s.qd.length < 64 by omega) (s.pick n)).mono ?_;rintro e w2 ⟨rfl,D2⟩;go_wp2;go_end0;exact ⟨J,0,D2.pre ((Zr_ _ _).alloc _)⟩
theorem reckon6 (h:Zg w p s) (n:Int) (x:Nat) (hn:0<=n) (hl:n < 8) (hb:s.qd.length < 64):Calls N 167 #[E (I ⟨p.mb,0,O⟩),A9 #[U Y 6,U Y n,Z V x]] w (Jm w p s ⟨6,n,x⟩):=by
 have D0:Zl (w.alloc (X #[U Y 6,U Y n,Z V x] 106)) p s (w.alloc (X #[U Y 6,U Y n,Z V x] 106)):=.same (h.alloc _);have hlt:=B9 h.hd;rcases (show n=0\/n=1\/n=2\/n=3\/n=4\/n=5\/n=6\/n=7 by omega) with rfl|rfl|rfl|rfl|rfl|rfl|rfl|rfl
 ·have r:(w.alloc (X #[U Y 6,U Y 0,Z V x] 106)).cell? ⟨p.mb,7,O⟩=I (Z V (s.args 0)):=(D0.cell 7 (u:=Z V (s.args 0)) (λ _=>J)).1;have c1:(w.alloc (X #[U Y 6,U Y 0,Z V x] 106)).cell? ⟨w.heap.size,1,O⟩=I (U Y 0):=Za (Zc _ _) J;have z1:Hid (Ze [] w (w.alloc (X #[U Y 6,U Y 0,Z V x] 106))):=Zh_ ((Zr_ _ _).alloc _);clear h;go_enter func167,ntmps167;go_wp2_with fail;generalize w.alloc (X #[U Y 6,U Y 0,Z V x] 106)=w1 at *
  go_still_tail 8,(by kernel_rfl);go_wp2_with fail;refine (Y5 D0.drew hb (s.args 0)).mono ?_;rintro e w2 ⟨rfl,D2⟩;go_wp2;go_end0;exact ⟨J,0,D2.pre z1.out⟩
 ·have r:(w.alloc (X #[U Y 6,U Y 1,Z V x] 106)).cell? ⟨p.mb,8,O⟩=I (Z V (s.args 1)):=(D0.cell 8 (u:=Z V (s.args 1)) (λ _=>J)).1;have c1:(w.alloc (X #[U Y 6,U Y 1,Z V x] 106)).cell? ⟨w.heap.size,1,O⟩=I (U Y 1):=Za (Zc _ _) J;have z1:Hid (Ze [] w (w.alloc (X #[U Y 6,U Y 1,Z V x] 106))):=Zh_ ((Zr_ _ _).alloc _);clear h;go_enter func167,ntmps167;go_wp2_with fail;generalize w.alloc (X #[U Y 6,U Y 1,Z V x] 106)=w1 at *
  go_still_tail 8,(by kernel_rfl);go_wp2_with fail;refine (Y5 D0.drew hb (s.args 1)).mono ?_;rintro e w2 ⟨rfl,D2⟩;go_wp2;go_end0;exact ⟨J,0,D2.pre z1.out⟩
 ·have r:(w.alloc (X #[U Y 6,U Y 2,Z V x] 106)).cell? ⟨p.mb,9,O⟩=I (Z V (s.args 2)):=(D0.cell 9 (u:=Z V (s.args 2)) (λ _=>J)).1;have c1:(w.alloc (X #[U Y 6,U Y 2,Z V x] 106)).cell? ⟨w.heap.size,1,O⟩=I (U Y 2):=Za (Zc _ _) J;have z1:Hid (Ze [] w (w.alloc (X #[U Y 6,U Y 2,Z V x] 106))):=Zh_ ((Zr_ _ _).alloc _);clear h;go_enter func167,ntmps167;go_wp2_with fail;generalize w.alloc (X #[U Y 6,U Y 2,Z V x] 106)=w1 at *
  go_still_tail 8,(by kernel_rfl);go_wp2_with fail;refine (Y5 D0.drew hb (s.args 2)).mono ?_;rintro e w2 ⟨rfl,D2⟩;go_wp2;go_end0;exact ⟨J,0,D2.pre z1.out⟩
 ·have r:(w.alloc (X #[U Y 6,U Y 3,Z V x] 106)).cell? ⟨p.mb,10,O⟩=I (Z V (s.args 3)):=(D0.cell 10 (u:=Z V (s.args 3)) (λ _=>J)).1;have c1:(w.alloc (X #[U Y 6,U Y 3,Z V x] 106)).cell? ⟨w.heap.size,1,O⟩=I (U Y 3):=Za (Zc _ _) J;have z1:Hid (Ze [] w (w.alloc (X #[U Y 6,U Y 3,Z V x] 106))):=Zh_ ((Zr_ _ _).alloc _);clear h;go_enter func167,ntmps167;go_wp2_with fail;generalize w.alloc (X #[U Y 6,U Y 3,Z V x] 106)=w1 at *
  go_still_tail 8,(by kernel_rfl);go_wp2_with fail;refine (Y5 D0.drew hb (s.args 3)).mono ?_;rintro e w2 ⟨rfl,D2⟩;go_wp2;go_end0;exact ⟨J,0,D2.pre z1.out⟩
 ·have r:(w.alloc (X #[U Y 6,U Y 4,Z V x] 106)).cell? ⟨p.mb,11,O⟩=I (Z V (s.args 4)):=(D0.cell 11 (u:=Z V (s.args 4)) (λ _=>J)).1;have c1:(w.alloc (X #[U Y 6,U Y 4,Z V x] 106)).cell? ⟨w.heap.size,1,O⟩=I (U Y 4):=Za (Zc _ _) J;have z1:Hid (Ze [] w (w.alloc (X #[U Y 6,U Y 4,Z V x] 106))):=Zh_ ((Zr_ _ _).alloc _);clear h;go_enter func167,ntmps167;go_wp2_with fail;generalize w.alloc (X #[U Y 6,U Y 4,Z V x] 106)=w1 at *
  go_still_tail 8,(by kernel_rfl);go_wp2_with fail;refine (Y5 D0.drew hb (s.args 4)).mono ?_;rintro e w2 ⟨rfl,D2⟩;go_wp2;go_end0;exact ⟨J,0,D2.pre z1.out⟩
 ·have r:(w.alloc (X #[U Y 6,U Y 5,Z V x] 106)).cell? ⟨p.mb,12,O⟩=I (Z V (s.args 5)):=(D0.cell 12 (u:=Z V (s.args 5)) (λ _=>J)).1;have c1:(w.alloc (X #[U Y 6,U Y 5,Z V x] 106)).cell? ⟨w.heap.size,1,O⟩=I (U Y 5):=Za (Zc _ _) J;have z1:Hid (Ze [] w (w.alloc (X #[U Y 6,U Y 5,Z V x] 106))):=Zh_ ((Zr_ _ _).alloc _);clear h;go_enter func167,ntmps167;go_wp2_with fail;generalize w.alloc (X #[U Y 6,U Y 5,Z V x] 106)=w1 at *
  go_still_tail 8,(by kernel_rfl);go_wp2_with fail;refine (Y5 D0.drew hb (s.args 5)).mono ?_;rintro e w2 ⟨rfl,D2⟩;go_wp2;go_end0;exact ⟨J,0,D2.pre z1.out⟩
 ·have r:(w.alloc (X #[U Y 6,U Y 6,Z V x] 106)).cell? ⟨p.mb,13,O⟩=I (Z V (s.args 6)):=(D0.cell 13 (u:=Z V (s.args 6)) (λ _=>J)).1;have c1:(w.alloc (X #[U Y 6,U Y 6,Z V x] 106)).cell? ⟨w.heap.size,1,O⟩=I (U Y 6):=Za (Zc _ _) J;have z1:Hid (Ze [] w (w.alloc (X #[U Y 6,U Y 6,Z V x] 106))):=Zh_ ((Zr_ _ _).alloc _);clear h;go_enter func167,ntmps167;go_wp2_with fail;generalize w.alloc (X #[U Y 6,U Y 6,Z V x] 106)=w1 at *
  go_still_tail 8,(by kernel_rfl);go_wp2_with fail;refine (Y5 D0.drew hb (s.args 6)).mono ?_;rintro e w2 ⟨rfl,D2⟩;go_wp2;go_end0;exact ⟨J,0,D2.pre z1.out⟩
 ·have r:(w.alloc (X #[U Y 6,U Y 7,Z V x] 106)).cell? ⟨p.mb,14,O⟩=I (Z V (s.args 7)):=(D0.cell 14 (u:=Z V (s.args 7)) (λ _=>J)).1;have c1:(w.alloc (X #[U Y 6,U Y 7,Z V x] 106)).cell? ⟨w.heap.size,1,O⟩=I (U Y 7):=Za (Zc _ _) J;have z1:Hid (Ze [] w (w.alloc (X #[U Y 6,U Y 7,Z V x] 106))):=Zh_ ((Zr_ _ _).alloc _);clear h;go_enter func167,ntmps167;go_wp2_with fail;generalize w.alloc (X #[U Y 6,U Y 7,Z V x] 106)=w1 at *
  go_still_tail 8,(by kernel_rfl);go_wp2_with fail;refine (Y5 D0.drew hb (s.args 7)).mono ?_;rintro e w2 ⟨rfl,D2⟩;go_wp2;go_end0;exact ⟨J,0,D2.pre z1.out⟩
theorem reckon7 (h:Zg w p s) (n:Int) (x:Nat) (hn:0<=n) (hl:n < 8) (hb:s.qd.length < 64):Calls N 167 #[E (I ⟨p.mb,0,O⟩),A9 #[U Y 7,U Y n,Z V x]] w (Jm w p s ⟨7,n,x⟩):=by
 have D0:Zl (w.alloc (X #[U Y 7,U Y n,Z V x] 106)) p s (w.alloc (X #[U Y 7,U Y n,Z V x] 106)):=.same (h.alloc _);have hlt:=B9 h.hd;rcases (show n=0\/n=1\/n=2\/n=3\/n=4\/n=5\/n=6\/n=7 by omega) with rfl|rfl|rfl|rfl|rfl|rfl|rfl|rfl
 ·have r:(w.alloc (X #[U Y 7,U Y 0,Z V x] 106)).cell? ⟨p.mb,15,O⟩=I (Z V (s.locals 0)):=(D0.cell 15 (u:=Z V (s.locals 0)) (λ _=>J)).1;have c1:(w.alloc (X #[U Y 7,U Y 0,Z V x] 106)).cell? ⟨w.heap.size,1,O⟩=I (U Y 0):=Za (Zc _ _) J;have z1:Hid (Ze [] w (w.alloc (X #[U Y 7,U Y 0,Z V x] 106))):=Zh_ ((Zr_ _ _).alloc _);clear h;go_enter func167,ntmps167;go_wp2_with fail;generalize w.alloc (X #[U Y 7,U Y 0,Z V x] 106)=w1 at *
  go_still_tail 8,(by kernel_rfl);go_wp2_with fail;refine (Y5 D0.drew hb (s.locals 0)).mono ?_;rintro e w2 ⟨rfl,D2⟩;go_wp2;go_end0;exact ⟨J,0,D2.pre z1.out⟩
 ·have r:(w.alloc (X #[U Y 7,U Y 1,Z V x] 106)).cell? ⟨p.mb,16,O⟩=I (Z V (s.locals 1)):=(D0.cell 16 (u:=Z V (s.locals 1)) (λ _=>J)).1;have c1:(w.alloc (X #[U Y 7,U Y 1,Z V x] 106)).cell? ⟨w.heap.size,1,O⟩=I (U Y 1):=Za (Zc _ _) J;have z1:Hid (Ze [] w (w.alloc (X #[U Y 7,U Y 1,Z V x] 106))):=Zh_ ((Zr_ _ _).alloc _);clear h;go_enter func167,ntmps167;go_wp2_with fail;generalize w.alloc (X #[U Y 7,U Y 1,Z V x] 106)=w1 at *
  go_still_tail 8,(by kernel_rfl);go_wp2_with fail;refine (Y5 D0.drew hb (s.locals 1)).mono ?_;rintro e w2 ⟨rfl,D2⟩;go_wp2;go_end0;exact ⟨J,0,D2.pre z1.out⟩
 ·have r:(w.alloc (X #[U Y 7,U Y 2,Z V x] 106)).cell? ⟨p.mb,17,O⟩=I (Z V (s.locals 2)):=(D0.cell 17 (u:=Z V (s.locals 2)) (λ _=>J)).1;have c1:(w.alloc (X #[U Y 7,U Y 2,Z V x] 106)).cell? ⟨w.heap.size,1,O⟩=I (U Y 2):=Za (Zc _ _) J;have z1:Hid (Ze [] w (w.alloc (X #[U Y 7,U Y 2,Z V x] 106))):=Zh_ ((Zr_ _ _).alloc _);clear h;go_enter func167,ntmps167;go_wp2_with fail;generalize w.alloc (X #[U Y 7,U Y 2,Z V x] 106)=w1 at *
  go_still_tail 8,(by kernel_rfl);go_wp2_with fail;refine (Y5 D0.drew hb (s.locals 2)).mono ?_;rintro e w2 ⟨rfl,D2⟩;go_wp2;go_end0;exact ⟨J,0,D2.pre z1.out⟩
 ·have r:(w.alloc (X #[U Y 7,U Y 3,Z V x] 106)).cell? ⟨p.mb,18,O⟩=I (Z V (s.locals 3)):=(D0.cell 18 (u:=Z V (s.locals 3)) (λ _=>J)).1;have c1:(w.alloc (X #[U Y 7,U Y 3,Z V x] 106)).cell? ⟨w.heap.size,1,O⟩=I (U Y 3):=Za (Zc _ _) J;have z1:Hid (Ze [] w (w.alloc (X #[U Y 7,U Y 3,Z V x] 106))):=Zh_ ((Zr_ _ _).alloc _);clear h;go_enter func167,ntmps167;go_wp2_with fail;generalize w.alloc (X #[U Y 7,U Y 3,Z V x] 106)=w1 at *
  go_still_tail 8,(by kernel_rfl);go_wp2_with fail;refine (Y5 D0.drew hb (s.locals 3)).mono ?_;rintro e w2 ⟨rfl,D2⟩;go_wp2;go_end0;exact ⟨J,0,D2.pre z1.out⟩
 ·have r:(w.alloc (X #[U Y 7,U Y 4,Z V x] 106)).cell? ⟨p.mb,19,O⟩=I (Z V (s.locals 4)):=(D0.cell 19 (u:=Z V (s.locals 4)) (λ _=>J)).1;have c1:(w.alloc (X #[U Y 7,U Y 4,Z V x] 106)).cell? ⟨w.heap.size,1,O⟩=I (U Y 4):=Za (Zc _ _) J;have z1:Hid (Ze [] w (w.alloc (X #[U Y 7,U Y 4,Z V x] 106))):=Zh_ ((Zr_ _ _).alloc _);clear h;go_enter func167,ntmps167;go_wp2_with fail;generalize w.alloc (X #[U Y 7,U Y 4,Z V x] 106)=w1 at *
  go_still_tail 8,(by kernel_rfl);go_wp2_with fail;refine (Y5 D0.drew hb (s.locals 4)).mono ?_;rintro e w2 ⟨rfl,D2⟩;go_wp2;go_end0;exact ⟨J,0,D2.pre z1.out⟩
 ·have r:(w.alloc (X #[U Y 7,U Y 5,Z V x] 106)).cell? ⟨p.mb,20,O⟩=I (Z V (s.locals 5)):=(D0.cell 20 (u:=Z V (s.locals 5)) (λ _=>J)).1;have c1:(w.alloc (X #[U Y 7,U Y 5,Z V x] 106)).cell? ⟨w.heap.size,1,O⟩=I (U Y 5):=Za (Zc _ _) J;have z1:Hid (Ze [] w (w.alloc (X #[U Y 7,U Y 5,Z V x] 106))):=Zh_ ((Zr_ _ _).alloc _);clear h;go_enter func167,ntmps167;go_wp2_with fail;generalize w.alloc (X #[U Y 7,U Y 5,Z V x] 106)=w1 at *
  go_still_tail 8,(by kernel_rfl);go_wp2_with fail;refine (Y5 D0.drew hb (s.locals 5)).mono ?_;rintro e w2 ⟨rfl,D2⟩;go_wp2;go_end0;exact ⟨J,0,D2.pre z1.out⟩
 ·have r:(w.alloc (X #[U Y 7,U Y 6,Z V x] 106)).cell? ⟨p.mb,21,O⟩=I (Z V (s.locals 6)):=(D0.cell 21 (u:=Z V (s.locals 6)) (λ _=>J)).1;have c1:(w.alloc (X #[U Y 7,U Y 6,Z V x] 106)).cell? ⟨w.heap.size,1,O⟩=I (U Y 6):=Za (Zc _ _) J;have z1:Hid (Ze [] w (w.alloc (X #[U Y 7,U Y 6,Z V x] 106))):=Zh_ ((Zr_ _ _).alloc _);clear h;go_enter func167,ntmps167;go_wp2_with fail;generalize w.alloc (X #[U Y 7,U Y 6,Z V x] 106)=w1 at *
  go_still_tail 8,(by kernel_rfl);go_wp2_with fail;refine (Y5 D0.drew hb (s.locals 6)).mono ?_;rintro e w2 ⟨rfl,D2⟩;go_wp2;go_end0;exact ⟨J,0,D2.pre z1.out⟩
 ·have r:(w.alloc (X #[U Y 7,U Y 7,Z V x] 106)).cell? ⟨p.mb,22,O⟩=I (Z V (s.locals 7)):=(D0.cell 22 (u:=Z V (s.locals 7)) (λ _=>J)).1;have c1:(w.alloc (X #[U Y 7,U Y 7,Z V x] 106)).cell? ⟨w.heap.size,1,O⟩=I (U Y 7):=Za (Zc _ _) J;have z1:Hid (Ze [] w (w.alloc (X #[U Y 7,U Y 7,Z V x] 106))):=Zh_ ((Zr_ _ _).alloc _);clear h;go_enter func167,ntmps167;go_wp2_with fail;generalize w.alloc (X #[U Y 7,U Y 7,Z V x] 106)=w1 at *
  go_still_tail 8,(by kernel_rfl);go_wp2_with fail;refine (Y5 D0.drew hb (s.locals 7)).mono ?_;rintro e w2 ⟨rfl,D2⟩;go_wp2;go_end0;exact ⟨J,0,D2.pre z1.out⟩
end
section
attribute [local go_sem] Zi
variable {w w' w0:W} {p p':MP} {s s':Zk}
theorem reckon8 (h:Zg w p s) (n:Int) (x:Nat) (hn:0<=n) (hl:n < 8) (h0:0 < s.qd.length) (hb:s.qd.length<=64):Calls N 167 #[E (I ⟨p.mb,0,O⟩),A9 #[U Y 8,U Y n,Z V x]] w (Jm w p s ⟨8,n,x⟩):=by
 have D0:Zl (w.alloc (X #[U Y 8,U Y n,Z V x] 106)) p s (w.alloc (X #[U Y 8,U Y n,Z V x] 106)):=.same (h.alloc _);have hlt:=B9 h.hd;have hkn:=Zh_ h.new;rcases (show n=0\/n=1\/n=2\/n=3\/n=4\/n=5\/n=6\/n=7 by omega) with rfl|rfl|rfl|rfl|rfl|rfl|rfl|rfl
 ·have hne:w.heap.size≠p.mb:=by omega
  have c1:(w.alloc (X #[U Y 8,U Y 0,Z V x] 106)).cell? ⟨w.heap.size,1,O⟩=I (U Y 0):=Za (Zc _ _) J;have HB:=Zh_ (Zc w (X #[U Y 8,U Y 0,Z V x] 106));have z1:Hid (Ze [] w (w.alloc (X #[U Y 8,U Y 0,Z V x] 106))):=Zh_ ((Zr_ _ _).alloc _);clear h;go_enter func167,ntmps167;go_wp2_with fail
  go_region_held3 (λ wx=>wx.cell? ⟨w.heap.size,1,O⟩=I (U Y 0)) (first|exact c1|exact e1|exact Za (Zr _ (D1.res HB.out hkn.out) hne) J)
   (first|(go_at_call 164;refine (Xv D0.drew h0 hb).mono ?_;rintro e w2 ⟨rfl,D1⟩;have e1:w2.cell? ⟨w.heap.size,1,O⟩=I (U Y 0):=Za (D1.res HB.out hkn.out) J;have r:=(D1.cell 15 (u:=Z V (s.pop.locals 0)) (λ _=>J)).1;have f:=(D1.cell 15 (u:=Z V (s.pop.locals 0)) (λ _=>J)).2))
  all_goals
   go_wp2;go_end0;exact ⟨J,0,(D1.xz 15 (Z V s.top) {s.pop with locals:=Vu s.locals 0 s.top} (λ _=>J) J J J J J J).pre z1.out⟩
 ·have hne:w.heap.size≠p.mb:=by omega
  have c1:(w.alloc (X #[U Y 8,U Y 1,Z V x] 106)).cell? ⟨w.heap.size,1,O⟩=I (U Y 1):=Za (Zc _ _) J;have HB:=Zh_ (Zc w (X #[U Y 8,U Y 1,Z V x] 106));have z1:Hid (Ze [] w (w.alloc (X #[U Y 8,U Y 1,Z V x] 106))):=Zh_ ((Zr_ _ _).alloc _);clear h;go_enter func167,ntmps167;go_wp2_with fail
  go_region_held3 (λ wx=>wx.cell? ⟨w.heap.size,1,O⟩=I (U Y 1)) (first|exact c1|exact e1|exact Za (Zr _ (D1.res HB.out hkn.out) hne) J)
   (first|(go_at_call 164;refine (Xv D0.drew h0 hb).mono ?_;rintro e w2 ⟨rfl,D1⟩;have e1:w2.cell? ⟨w.heap.size,1,O⟩=I (U Y 1):=Za (D1.res HB.out hkn.out) J;have r:=(D1.cell 16 (u:=Z V (s.pop.locals 1)) (λ _=>J)).1;have f:=(D1.cell 16 (u:=Z V (s.pop.locals 1)) (λ _=>J)).2))
  all_goals
   go_wp2;go_end0;exact ⟨J,0,(D1.xz 16 (Z V s.top) {s.pop with locals:=Vu s.locals 1 s.top} (λ _=>J) J J J J J J).pre z1.out⟩
 ·have hne:w.heap.size≠p.mb:=by omega
  have c1:(w.alloc (X #[U Y 8,U Y 2,Z V x] 106)).cell? ⟨w.heap.size,1,O⟩=I (U Y 2):=Za (Zc _ _) J;have HB:=Zh_ (Zc w (X #[U Y 8,U Y 2,Z V x] 106));have z1:Hid (Ze [] w (w.alloc (X #[U Y 8,U Y 2,Z V x] 106))):=Zh_ ((Zr_ _ _).alloc _);clear h;go_enter func167,ntmps167;go_wp2_with fail
  go_region_held3 (λ wx=>wx.cell? ⟨w.heap.size,1,O⟩=I (U Y 2)) (first|exact c1|exact e1|exact Za (Zr _ (D1.res HB.out hkn.out) hne) J)
   (first|(go_at_call 164;refine (Xv D0.drew h0 hb).mono ?_;rintro e w2 ⟨rfl,D1⟩;have e1:w2.cell? ⟨w.heap.size,1,O⟩=I (U Y 2):=Za (D1.res HB.out hkn.out) J;have r:=(D1.cell 17 (u:=Z V (s.pop.locals 2)) (λ _=>J)).1;have f:=(D1.cell 17 (u:=Z V (s.pop.locals 2)) (λ _=>J)).2))
  all_goals
   go_wp2;go_end0;exact ⟨J,0,(D1.xz 17 (Z V s.top) {s.pop with locals:=Vu s.locals 2 s.top} (λ _=>J) J J J J J J).pre z1.out⟩
 ·have hne:w.heap.size≠p.mb:=by omega
  have c1:(w.alloc (X #[U Y 8,U Y 3,Z V x] 106)).cell? ⟨w.heap.size,1,O⟩=I (U Y 3):=Za (Zc _ _) J;have HB:=Zh_ (Zc w (X #[U Y 8,U Y 3,Z V x] 106));have z1:Hid (Ze [] w (w.alloc (X #[U Y 8,U Y 3,Z V x] 106))):=Zh_ ((Zr_ _ _).alloc _);clear h;go_enter func167,ntmps167;go_wp2_with fail
  go_region_held3 (λ wx=>wx.cell? ⟨w.heap.size,1,O⟩=I (U Y 3)) (first|exact c1|exact e1|exact Za (Zr _ (D1.res HB.out hkn.out) hne) J)
   (first|(go_at_call 164;refine (Xv D0.drew h0 hb).mono ?_;rintro e w2 ⟨rfl,D1⟩;have e1:w2.cell? ⟨w.heap.size,1,O⟩=I (U Y 3):=Za (D1.res HB.out hkn.out) J;have r:=(D1.cell 18 (u:=Z V (s.pop.locals 3)) (λ _=>J)).1;have f:=(D1.cell 18 (u:=Z V (s.pop.locals 3)) (λ _=>J)).2))
  all_goals
   go_wp2;go_end0;exact ⟨J,0,(D1.xz 18 (Z V s.top) {s.pop with locals:=Vu s.locals 3 s.top} (λ _=>J) J J J J J J).pre z1.out⟩
 ·have hne:w.heap.size≠p.mb:=by omega
  have c1:(w.alloc (X #[U Y 8,U Y 4,Z V x] 106)).cell? ⟨w.heap.size,1,O⟩=I (U Y 4):=Za (Zc _ _) J;have HB:=Zh_ (Zc w (X #[U Y 8,U Y 4,Z V x] 106));have z1:Hid (Ze [] w (w.alloc (X #[U Y 8,U Y 4,Z V x] 106))):=Zh_ ((Zr_ _ _).alloc _);clear h;go_enter func167,ntmps167;go_wp2_with fail
  go_region_held3 (λ wx=>wx.cell? ⟨w.heap.size,1,O⟩=I (U Y 4)) (first|exact c1|exact e1|exact Za (Zr _ (D1.res HB.out hkn.out) hne) J)
   (first|(go_at_call 164;refine (Xv D0.drew h0 hb).mono ?_;rintro e w2 ⟨rfl,D1⟩;have e1:w2.cell? ⟨w.heap.size,1,O⟩=I (U Y 4):=Za (D1.res HB.out hkn.out) J;have r:=(D1.cell 19 (u:=Z V (s.pop.locals 4)) (λ _=>J)).1;have f:=(D1.cell 19 (u:=Z V (s.pop.locals 4)) (λ _=>J)).2))
  all_goals
   go_wp2;go_end0;exact ⟨J,0,(D1.xz 19 (Z V s.top) {s.pop with locals:=Vu s.locals 4 s.top} (λ _=>J) J J J J J J).pre z1.out⟩
 ·have hne:w.heap.size≠p.mb:=by omega
  have c1:(w.alloc (X #[U Y 8,U Y 5,Z V x] 106)).cell? ⟨w.heap.size,1,O⟩=I (U Y 5):=Za (Zc _ _) J;have HB:=Zh_ (Zc w (X #[U Y 8,U Y 5,Z V x] 106));have z1:Hid (Ze [] w (w.alloc (X #[U Y 8,U Y 5,Z V x] 106))):=Zh_ ((Zr_ _ _).alloc _);clear h;go_enter func167,ntmps167;go_wp2_with fail
  go_region_held3 (λ wx=>wx.cell? ⟨w.heap.size,1,O⟩=I (U Y 5)) (first|exact c1|exact e1|exact Za (Zr _ (D1.res HB.out hkn.out) hne) J)
   (first|(go_at_call 164;refine (Xv D0.drew h0 hb).mono ?_;rintro e w2 ⟨rfl,D1⟩;have e1:w2.cell? ⟨w.heap.size,1,O⟩=I (U Y 5):=Za (D1.res HB.out hkn.out) J;have r:=(D1.cell 20 (u:=Z V (s.pop.locals 5)) (λ _=>J)).1;have f:=(D1.cell 20 (u:=Z V (s.pop.locals 5)) (λ _=>J)).2))
  all_goals
   go_wp2;go_end0;exact ⟨J,0,(D1.xz 20 (Z V s.top) {s.pop with locals:=Vu s.locals 5 s.top} (λ _=>J) J J J J J J).pre z1.out⟩
 ·have hne:w.heap.size≠p.mb:=by omega
  have c1:(w.alloc (X #[U Y 8,U Y 6,Z V x] 106)).cell? ⟨w.heap.size,1,O⟩=I (U Y 6):=Za (Zc _ _) J;have HB:=Zh_ (Zc w (X #[U Y 8,U Y 6,Z V x] 106));have z1:Hid (Ze [] w (w.alloc (X #[U Y 8,U Y 6,Z V x] 106))):=Zh_ ((Zr_ _ _).alloc _);clear h;go_enter func167,ntmps167;go_wp2_with fail
  go_region_held3 (λ wx=>wx.cell? ⟨w.heap.size,1,O⟩=I (U Y 6)) (first|exact c1|exact e1|exact Za (Zr _ (D1.res HB.out hkn.out) hne) J)
   (first|(go_at_call 164;refine (Xv D0.drew h0 hb).mono ?_;rintro e w2 ⟨rfl,D1⟩;have e1:w2.cell? ⟨w.heap.size,1,O⟩=I (U Y 6):=Za (D1.res HB.out hkn.out) J;have r:=(D1.cell 21 (u:=Z V (s.pop.locals 6)) (λ _=>J)).1;have f:=(D1.cell 21 (u:=Z V (s.pop.locals 6)) (λ _=>J)).2))
  all_goals
   go_wp2;go_end0;exact ⟨J,0,(D1.xz 21 (Z V s.top) {s.pop with locals:=Vu s.locals 6 s.top} (λ _=>J) J J J J J J).pre z1.out⟩
 ·have hne:w.heap.size≠p.mb:=by omega
  have c1:(w.alloc (X #[U Y 8,U Y 7,Z V x] 106)).cell? ⟨w.heap.size,1,O⟩=I (U Y 7):=Za (Zc _ _) J;have HB:=Zh_ (Zc w (X #[U Y 8,U Y 7,Z V x] 106));have z1:Hid (Ze [] w (w.alloc (X #[U Y 8,U Y 7,Z V x] 106))):=Zh_ ((Zr_ _ _).alloc _);clear h;go_enter func167,ntmps167;go_wp2_with fail
  go_region_held3 (λ wx=>wx.cell? ⟨w.heap.size,1,O⟩=I (U Y 7)) (first|exact c1|exact e1|exact Za (Zr _ (D1.res HB.out hkn.out) hne) J)
   (first|(go_at_call 164;refine (Xv D0.drew h0 hb).mono ?_;rintro e w2 ⟨rfl,D1⟩;have e1:w2.cell? ⟨w.heap.size,1,O⟩=I (U Y 7):=Za (D1.res HB.out hkn.out) J;have r:=(D1.cell 22 (u:=Z V (s.pop.locals 7)) (λ _=>J)).1;have f:=(D1.cell 22 (u:=Z V (s.pop.locals 7)) (λ _=>J)).2))
  all_goals
   go_wp2;go_end0;exact ⟨J,0,(D1.xz 22 (Z V s.top) {s.pop with locals:=Vu s.locals 7 s.top} (λ _=>J) J J J J J J).pre z1.out⟩
theorem reckon9 (h:Zg w p s) (n:Int) (x:Nat) (hn:1<=n) (hl:n<=8) (h0:0 < s.qd.length) (hb:s.qd.length<=64):Calls N 167 #[E (I ⟨p.mb,0,O⟩),A9 #[U Y 9,U Y n,Z V x]] w (Jm w p s ⟨9,n,x⟩):=by
 have D0:Zl (w.alloc (X #[U Y 9,U Y n,Z V x] 106)) p s (w.alloc (X #[U Y 9,U Y n,Z V x] 106)):=.same (h.alloc _);have hlt:=B9 h.hd;have hkn:=Zh_ h.new;have c1:(w.alloc (X #[U Y 9,U Y n,Z V x] 106)).cell? ⟨w.heap.size,1,O⟩=I (U Y n):=Za (Zc _ _) J;have HB:=Zh_ (Zc w (X #[U Y 9,U Y n,Z V x] 106));have z1:Hid (Ze [] w (w.alloc (X #[U Y 9,U Y n,Z V x] 106))):=Zh_ ((Zr_ _ _).alloc _);clear h;go_enter func167,ntmps167;go_wp2_with fail
 go_region_held3 (λ wx=>wx.cell? ⟨w.heap.size,1,O⟩=I (U Y n)) (first|exact c1|exact e1|exact e2)
  (first
   |(go_at_call 164;refine (Xv D0.drew h0 hb).mono ?_;rintro e w2 ⟨rfl,D1⟩;have e1:w2.cell? ⟨w.heap.size,1,O⟩=I (U Y n):=Za (D1.res HB.out hkn.out) J)
   |(go_at_call 179;refine (one_c n hn hl s.top _).mono ?_;rintro e w3 ⟨v,rfl,m3⟩;have D2:=D1.xi m3;have e2:w3.cell? ⟨w.heap.size,1,O⟩=I (U Y n):=Za (D2.res HB.out hkn.out) J))
 all_goals
  go_wp2_with fail;refine (Y5 D2 (show s.qd.dropLast.length < 64 by simp;omega) (Zq v)).mono ?_;rintro e w4 ⟨rfl,D3⟩;go_wp2;go_end0;exact ⟨J,v,D3.pre z1.out⟩
theorem reckon10 (h:Zg w p s) (n:Int) (x:Nat) (hn:1<=n) (hl:n<=12) (h0:2<=s.qd.length) (hb:s.qd.length<=64):Calls N 167 #[E (I ⟨p.mb,0,O⟩),A9 #[U Y 10,U Y n,Z V x]] w (Jm w p s ⟨10,n,x⟩):=by
 have D0:Zl (w.alloc (X #[U Y 10,U Y n,Z V x] 106)) p s (w.alloc (X #[U Y 10,U Y n,Z V x] 106)):=.same (h.alloc _);have hlt:=B9 h.hd;have hkn:=Zh_ h.new;have HB:=Zh_ (Zc w (X #[U Y 10,U Y n,Z V x] 106));have z1:Hid (Ze [] w (w.alloc (X #[U Y 10,U Y n,Z V x] 106))):=Zh_ ((Zr_ _ _).alloc _);clear h;go_enter func167,ntmps167;go_wp2_with fail;refine (Xv D0 (show 0 < s.qd.length by omega) (show s.qd.length<=64 by omega)).mono ?_;rintro e w1 ⟨rfl,D1⟩;go_wp2_with fail;refine (Xv D1 (show 0 < s.qd.dropLast.length by simp;omega) (show s.qd.dropLast.length<=64 by simp;omega)).mono ?_;rintro e w2 ⟨rfl,D2⟩;have c1:w2.cell? ⟨w.heap.size,1,O⟩=I (U Y n):=Za (D2.res HB.out hkn.out) J;go_wp2_with fail;refine (two_c n hn hl s.pop.top s.top _).mono ?_;rintro e w3 ⟨v,rfl,m3⟩;have D3:=D2.xi m3;go_wp2_with fail;refine (Y5 D3 (show s.qd.dropLast.dropLast.length < 64 by simp;omega) (J9 n (Zq s.pop.top) (Zq s.top) v)).mono ?_;rintro e w4 ⟨rfl,D4⟩;go_wp2;go_end0;exact ⟨J,v,D4.pre z1.out⟩
end
section
attribute [local go_sem] Zi
variable {w w' w0:W} {p p':MP} {s s':Zk}
theorem Zg.drew (h:Zg w p s):Zg w.drew p s:=h.mod ((Zr_ [] w).drew) (by simp)
theorem mpop_x (h:Zg w p s) (hl:0 < s.qd.length) (hb:s.qd.length<=64):Calls N 164 #[E (I ⟨p.mb,0,O⟩)] w λ e w'=>e=R9 (Z V s.top)/\∃ vn,Zg w' {p with vn:=vn} s.pop/\Dt w p w' {p with vn:=vn}:=by
 have r:=(h.cell 23 (u:=E (I ⟨p.nb,0,O⟩)) J).1;have hn:U1 w p.nb p.vn 64 (s.qd.dropLast++[s.top]):=by
  have:=h.qd
  rwa [Cs hl] at this
 go_enter func164,ntmps164;go_wp2_with fail;refine (Cw hn (by simp;omega)).mono ?_;rintro e w1 ⟨rfl,v',h1,h2,h3⟩;go_wp2;go_ret;exact ⟨J,_,h.kx h1 (.inl h2) (h3.mono (by simp))⟩
theorem reckon18 (h:Zg w p s) (n:Int) (x:Nat) (h0:0 < s.qd.length) (hb:s.qd.length<=64) (ho:s.out.length<=4096):Calls N 167 #[E (I ⟨p.mb,0,O⟩),A9 #[U Y 18,U Y n,Z V x]] w (Jm w p s ⟨18,n,x⟩):=by
 have hA:=h.alloc (X #[U Y 18,U Y n,Z V x] 106);have hlt:=B9 h.hd;obtain ⟨av,cv,hv⟩:=Zo h.out;have r32:w.cell? ⟨p.mb,32,O⟩=I (L av s.out.length cv):=by rw [show L av s.out.length cv=p.vo from hv.symm];exact (h.cell 32 (u:=p.vo) J).1
 obtain ⟨i0,hi0,hz0,hz1,hz2⟩:=info_parts Up;clear h;go_enter func167,ntmps167;go_wp2_with fail
 go_region_law (first
  |(refine step_append_lies _ J (.tmp 137) (.tmp 140) 24 J 0 51 i0 (Z V 0) 1 8 underlying24 hi0 hz0 hz1 hz2 J (by decide) (L av s.out.length cv) s.out.length (s.out.map (Z V)) (by simp [Act.eval]) (hrow.alloc _) ⟨w2.heap.size,0,O⟩ 1 1 [Z V s.top] (by simp [Act.eval]) J (cell_one_new w2 _ 51) (by intro u hu;simp at hu;subst hu;rfl) (by decide) (by unfold maxLen;omega) (by omega) (Nat.zero_le _) _ J ?_;intro g5 cap5 w5 ho5 hg5 hat hlt5;obtain ⟨m5,hon,K5⟩:=grew_o (n:=s.out.length+1) (cap:=cap5) h2.out hv ((Zr_ [] w2).alloc _) hg5 hat;have r32':=Za (i:=32) K5 J;have f32':=Zb (i:=32) K5;have HO:=Zh_ ho5;have HON:=Zh_ hon;have HM:=Zh_ m5;clear ho5 hg5 hat hlt5 hon m5 K5)
  |(go_simp;go_at_call 164;refine (mpop_x hA.drew h0 hb).mono ?_;rintro e w2 ⟨rfl,vn,h2',F2⟩;have h2:=Zh_ h2';have q32:w2.cell? ⟨p.mb,32,O⟩=I (L av s.out.length cv):=(by rw [show L av s.out.length cv=p.vo from hv.symm];exact (h2'.cell 32 (u:=p.vo) J).1);have hrow:w2.ownsRow 0 51 1 (L av s.out.length cv) s.out.length (s.out.map (Z V)):=(by have:=h2'.out;rw [show ({p with vn:=vn}:MP).vo=L av s.out.length cv from hv] at this;exact this);have hlt2:p.mb < w2.heap.size:=B9 h2'.hd;clear h2'))
 all_goals
  go_wp2;go_end0;obtain ⟨k1,k2⟩:=h2.out.ox (xs:=s.out++[s.top]) (by rw [List.map_append,List.length_append];exact HO.out) HON.out HM.out;exact ⟨J,0,Zl.pre (⟨_,k1,F2.trans k2⟩:Zl (w.alloc (X #[U Y 18,U Y n,Z V x] 106)).drew p {s.pop with out:=s.out++[s.top]} _) (((Zr_ _ _).alloc _).drew)⟩
end
section
attribute [local go_sem] Zi
variable {w w' w0:W} {p p':MP} {s s':Zk}
def P8 (w:W) (p:MP) (s:Zk) (i:Xg) (e:Ending) (w':W):Prop:=∃ v,ExP w p s (s.xt v i) e w'
theorem C7 (w:W) (o:Obj):(w.alloc o).heap.size=w.heap.size+1:=by simp
theorem Xa {w1:W} {k:Nat} (RB:w1.heap[k]? =I Ye) (a:Xh):((((w1.setCell ⟨k,0,O⟩ (U Y a.kind)).setCell ⟨k,1,O⟩ (U Y a.cell)).setCell ⟨k,2,O⟩ (Z V a.x)).setCell ⟨k,3,O⟩ (.bool a.first)).heap[k]? =I (X #[U Y a.kind,U Y a.cell,Z V a.x,.bool a.first] 152 (0,0)):=
 Zd (i:=3) (.bool a.first) (Zd (i:=2) (Z V a.x) (Zd (i:=1) (U Y a.cell) (Zd (i:=0) (U Y a.kind) RB)))
theorem ask_mod (w1:W) (k:Nat) (a:Xh):Ze [k] w1 ((((w1.setCell ⟨k,0,O⟩ (U Y a.kind)).setCell ⟨k,1,O⟩ (U Y a.cell)).setCell ⟨k,2,O⟩ (Z V a.x)).setCell ⟨k,3,O⟩ (.bool a.first)):=
 ((((Zr_ _ _).setCell _ _ (.inl (by simp))).setCell _ _ (.inl (by simp))).setCell _ _ (.inl (by simp))).setCell _ _ (.inl (by simp))
theorem Y9 {b:Obj} {w1:W} (h:Zg w p s) (D:Zl ((w.alloc b).alloc Ye) p s' w1) (a:Xh):Zl w p s' ((((w1.setCell ⟨w.heap.size+1,0,O⟩ (U Y a.kind)).setCell ⟨w.heap.size+1,1,O⟩ (U Y a.cell)).setCell ⟨w.heap.size+1,2,O⟩ (Z V a.x)).setCell ⟨w.heap.size+1,3,O⟩ (.bool a.first)):=by
 have m:=ask_mod w1 (w.heap.size+1) a;rw [<-C7 w b] at m ⊢
 exact (D.fin (h.alloc b) m).pre ((Zr_ _ _).alloc _)
theorem Y8 {b:Obj} {w1:W} (h:Zg w p s) (D:Zl ((w.alloc b).alloc Ye) p s' w1):w1.heap[w.heap.size+1]? =I Ye:=by
 rw [<-C7 w b];exact D.res (Zc _ _) (h.alloc b).new
theorem Qz {b:Obj} {w1:W} (h:Zg w p s) (D:Zl ((w.alloc b).alloc Ye) p s' w1):w1.heap[w.heap.size]? =I b:=
 D.res (Zf _ (Zc _ _)) h.new
theorem do16 (h:Zg w p s) (n:Int) (x:Nat) (hc:∀ w1,Zg w1 p s->Calls N 161 #[E (I ⟨p.mb,0,O⟩)] w1 (ExP w1 p s s.zx)):Calls N 143 #[E (I ⟨p.mb,0,O⟩),A9 #[U Y 16,U Y n,Z V x]] w (P8 w p s ⟨16,n,x⟩):=by
 have D0:Zl ((w.alloc (X #[U Y 16,U Y n,Z V x] 106)).alloc Ye) p s ((w.alloc (X #[U Y 16,U Y n,Z V x] 106)).alloc Ye):=.same ((h.alloc _).alloc _);have hlt:=B9 h.hd;have HH:=Zh_ h;have hr:=hc _ ((h.alloc (X #[U Y 16,U Y n,Z V x] 106)).alloc Ye);have he:∀ v,s.xt v ⟨16,n,x⟩=s.zx:=λ _=>J;clear hc h;cases hx:s.zx with
 |error c=>
  rw [hx] at hr;go_enter func143,ntmps143;go_wp2_with fail;refine hr.mono ?_;rintro e w1 ⟨rfl,D1⟩;have HD:=Zh_ D1;have HE:=Zh_ he;have HX:=Zh_ hx;clear D1 he hx hr D0;go_wp2;exact ⟨J,0,by rw [HE.out,HX.out];exact ⟨J,HD.out.pre (((Zr_ _ _).alloc _).alloc _)⟩⟩
 |ok r=>
  obtain ⟨s',a⟩:=r;rw [hx] at hr;go_enter func143,ntmps143;go_wp2_with fail;refine hr.mono ?_;rintro e w1 ⟨he1,D1⟩;have he2:e=R9 (A9 #[U Y a.kind,U Y a.cell,Z V a.x,.bool a.first]):=he1
  subst he2;have RB:=Y8 HH.out D1;have HRB:=Zh_ RB;have g0:=Za (i:=0) RB J;have z0:=Zb (i:=0) RB;have g1:=Za (i:=1) RB J;have z1:=Zb (i:=1) RB;have g2:=Za (i:=2) RB J;have z2:=Zb (i:=2) RB;have g3:=Za (i:=3) RB J;have z3:=Zb (i:=3) RB;have HD:=Zh_ D1;have HE:=Zh_ he;have HX:=Zh_ hx;clear D1 he hx hr RB he1 D0;go_wp2;refine bodyPost_ret (v:=(a:Xh).val) (results_cell_row (P:=N) (fn:=Tryz.f143) (p:=4) (ty:=152) J _ _ (w.heap.size+1) 152 _ (0,0) _ J (Xa HRB.out (a)) underlying152 J (by kernel_rfl)) J ?_;exact ⟨0,by rw [HE.out,HX.out];exact ⟨J,Y9 HH.out HD.out a⟩⟩
theorem do17 (h:Zg w p s) (n:Int) (x:Nat) (hc:∀ w1,Zg w1 p s->Calls N 162 #[E (I ⟨p.mb,0,O⟩)] w1 (ExP w1 p s s.zh)):Calls N 143 #[E (I ⟨p.mb,0,O⟩),A9 #[U Y 17,U Y n,Z V x]] w (P8 w p s ⟨17,n,x⟩):=by
 have D0:Zl ((w.alloc (X #[U Y 17,U Y n,Z V x] 106)).alloc Ye) p s ((w.alloc (X #[U Y 17,U Y n,Z V x] 106)).alloc Ye):=.same ((h.alloc _).alloc _);have hlt:=B9 h.hd;have HH:=Zh_ h;have hr:=hc _ ((h.alloc (X #[U Y 17,U Y n,Z V x] 106)).alloc Ye);have he:∀ v,s.xt v ⟨17,n,x⟩=s.zh:=λ _=>J;clear hc h;cases hx:s.zh with
 |error c=>
  rw [hx] at hr;go_enter func143,ntmps143;go_wp2_with fail;refine hr.mono ?_;rintro e w1 ⟨rfl,D1⟩;have HD:=Zh_ D1;have HE:=Zh_ he;have HX:=Zh_ hx;clear D1 he hx hr D0;go_wp2;exact ⟨J,0,by rw [HE.out,HX.out];exact ⟨J,HD.out.pre (((Zr_ _ _).alloc _).alloc _)⟩⟩
 |ok r=>
  obtain ⟨s',a⟩:=r;rw [hx] at hr;go_enter func143,ntmps143;go_wp2_with fail;refine hr.mono ?_;rintro e w1 ⟨he1,D1⟩;have he2:e=R9 (A9 #[U Y a.kind,U Y a.cell,Z V a.x,.bool a.first]):=he1
  subst he2;have RB:=Y8 HH.out D1;have HRB:=Zh_ RB;have g0:=Za (i:=0) RB J;have z0:=Zb (i:=0) RB;have g1:=Za (i:=1) RB J;have z1:=Zb (i:=1) RB;have g2:=Za (i:=2) RB J;have z2:=Zb (i:=2) RB;have g3:=Za (i:=3) RB J;have z3:=Zb (i:=3) RB;have HD:=Zh_ D1;have HE:=Zh_ he;have HX:=Zh_ hx;clear D1 he hx hr RB he1 D0;go_wp2;refine bodyPost_ret (v:=(a:Xh).val) (results_cell_row (P:=N) (fn:=Tryz.f143) (p:=4) (ty:=152) J _ _ (w.heap.size+1) 152 _ (0,0) _ J (Xa HRB.out (a)) underlying152 J (by kernel_rfl)) J ?_;exact ⟨0,by rw [HE.out,HX.out];exact ⟨J,Y9 HH.out HD.out a⟩⟩
theorem do19 (h:Zg w p s) (n:Int) (x:Nat):Calls N 143 #[E (I ⟨p.mb,0,O⟩),A9 #[U Y 19,U Y n,Z V x]] w (P8 w p s ⟨19,n,x⟩):=by
 have D0:Zl ((w.alloc (X #[U Y 19,U Y n,Z V x] 106)).alloc Ye) p s ((w.alloc (X #[U Y 19,U Y n,Z V x] 106)).alloc Ye):=.same ((h.alloc _).alloc _);have hlt:=B9 h.hd;have HH:=Zh_ h;clear h;go_enter func143,ntmps143;go_wp2_with fail;refine (Dj D0 2 n 0).mono ?_;rintro e w1 ⟨he1,D1⟩;have he2:e=R9 (A9 #[U Y 4,U Y 0,Z V 0,.bool false]):=he1;subst he2;have RB:=Y8 HH.out D1;have HRB:=Zh_ RB;have g0:=Za (i:=0) RB J;have z0:=Zb (i:=0) RB;have g1:=Za (i:=1) RB J;have z1:=Zb (i:=1) RB;have g2:=Za (i:=2) RB J;have z2:=Zb (i:=2) RB;have g3:=Za (i:=3) RB J;have z3:=Zb (i:=3) RB;have HD:=Zh_ D1;clear D1 RB he1 D0;go_wp2;refine bodyPost_ret (v:=(Z1 4:Xh).val) (results_cell_row (P:=N) (fn:=Tryz.f143) (p:=4) (ty:=152) J _ _ (w.heap.size+1) 152 _ (0,0) _ J (Xa HRB.out (Z1 4)) underlying152 J (by kernel_rfl)) J ?_;exact ⟨0,J,Y9 HH.out HD.out (Z1 4)⟩
theorem do20 (h:Zg w p s) (n:Int) (x:Nat):Calls N 143 #[E (I ⟨p.mb,0,O⟩),A9 #[U Y 20,U Y n,Z V x]] w (P8 w p s ⟨20,n,x⟩):=by
 have D0:Zl ((w.alloc (X #[U Y 20,U Y n,Z V x] 106)).alloc Ye) p s ((w.alloc (X #[U Y 20,U Y n,Z V x] 106)).alloc Ye):=.same ((h.alloc _).alloc _);have hlt:=B9 h.hd;have HH:=Zh_ h;clear h;go_enter func143,ntmps143;go_wp2_with fail;refine (Dj D0 1 0 0).mono ?_;rintro e w1 ⟨he1,D1⟩;have he2:e=R9 (A9 #[U Y 4,U Y 0,Z V 0,.bool false]):=he1;subst he2;have RB:=Y8 HH.out D1;have HRB:=Zh_ RB;have g0:=Za (i:=0) RB J;have z0:=Zb (i:=0) RB;have g1:=Za (i:=1) RB J;have z1:=Zb (i:=1) RB;have g2:=Za (i:=2) RB J;have z2:=Zb (i:=2) RB;have g3:=Za (i:=3) RB J;have z3:=Zb (i:=3) RB;have HD:=Zh_ D1;clear D1 RB he1 D0;go_wp2;refine bodyPost_ret (v:=(Z1 4:Xh).val) (results_cell_row (P:=N) (fn:=Tryz.f143) (p:=4) (ty:=152) J _ _ (w.heap.size+1) 152 _ (0,0) _ J (Xa HRB.out (Z1 4)) underlying152 J (by kernel_rfl)) J ?_;exact ⟨0,J,Y9 HH.out HD.out (Z1 4)⟩
end
section
attribute [local go_sem] Zi
variable {w w' w0:W} {p p':MP} {s s':Zk}
theorem do11 (h:Zg w p s) (n:Int) (x:Nat):Calls N 143 #[E (I ⟨p.mb,0,O⟩),A9 #[U Y 11,U Y n,Z V x]] w (P8 w p s ⟨11,n,x⟩):=by
 have D0:Zl ((w.alloc (X #[U Y 11,U Y n,Z V x] 106)).alloc Ye) p s ((w.alloc (X #[U Y 11,U Y n,Z V x] 106)).alloc Ye):=.same ((h.alloc _).alloc _);have hlt:=B9 h.hd;have HH:=Zh_ h;have r25:=(h.cell 25 (u:=U Y s.place) J).1;have f25:=(h.cell 25 (u:=U Y s.place) J).2;clear h;go_enter func143,ntmps143;go_wp2;have HRB:=Zh_ (heap_alloc2_new (w.setCell ⟨p.mb,25,O⟩ (U Y n)) (X #[U Y 11,U Y n,Z V x] 106) Ye);rw [show (w.setCell ⟨p.mb,25,O⟩ (U Y n)).heap.size=w.heap.size by simp] at HRB;refine bodyPost_ret (v:=(Z1 0:Xh).val) (results_cell_row (P:=N) (fn:=Tryz.f143) (p:=4) (ty:=152) J _ _ (w.heap.size+1) 152 _ (0,0) _ J HRB.out underlying152 J (by kernel_rfl)) J ?_;exact ⟨0,J,(((Zl.same HH.out).xz 25 (U Y n) {s with place:=n} (λ _=>J) J J J J J J).alloc _).alloc _⟩
theorem Tt (x:Nat) (w:W):Calls N 163 #[Z V x] w λ e w'=>e=R9 (.bool (Ud x))/\w'=w:=true_c x w
theorem do12t (h:Zg w p s) (h0:0 < s.qd.length) (hb:s.qd.length<=64) (ht:Ud s.top=true) (n:Int) (x:Nat):Calls N 143 #[E (I ⟨p.mb,0,O⟩),A9 #[U Y 12,U Y n,Z V x]] w (P8 w p s ⟨12,n,x⟩):=by
 have D0:Zl ((w.alloc (X #[U Y 12,U Y n,Z V x] 106)).alloc Ye) p s ((w.alloc (X #[U Y 12,U Y n,Z V x] 106)).alloc Ye):=.same ((h.alloc _).alloc _);have hlt:=B9 h.hd;have HH:=Zh_ h;have he:∀ v,s.xt v ⟨12,n,x⟩=.ok ({s.pop with place:=n},Z1 0):=λ v=>by
  simp [Zk.xt,ht,Zk.pop]
 have HE:=Zh_ he;have c0:((w.alloc (X #[U Y 12,U Y n,Z V x] 106)).alloc Ye).cell? ⟨w.heap.size,0,O⟩=I (U Y 12):=Za (Zf _ (Zc _ _)) J;clear h he;go_enter func143,ntmps143;go_wp2_with fail
 go_region_held3 (λ wx=>wx.cell? ⟨w.heap.size,0,O⟩=I (U Y 12)) (first|exact c0|exact e0)
  (first
   |(go_at_call 164;refine (Xv D0.drew h0 hb).mono ?_;rintro e w2 ⟨rfl,D1⟩;have e0:w2.cell? ⟨w.heap.size,0,O⟩=I (U Y 12):=Za (Qz HH.out D1) J)
   |(go_at_call 163;refine (Tt _ _).mono ?_;rintro e w3 ⟨rfl,hw3⟩;have hw3':=hw3.symm;subst hw3';rw [ht]))
 all_goals
  have RB:=Y8 HH.out D1;have HRB:=Zh_ RB;have g0:=Za (i:=0) RB J;have z0:=Zb (i:=0) RB;have g1:=Za (i:=1) RB J;have z1:=Zb (i:=1) RB;have g2:=Za (i:=2) RB J;have z2:=Zb (i:=2) RB;have g3:=Za (i:=3) RB J;have z3:=Zb (i:=3) RB;have c1:w2.cell? ⟨w.heap.size,1,O⟩=I (U Y n):=Za (Qz HH.out D1) J;have r25:=(D1.cell 25 (u:=U Y s.place) (λ _=>J)).1;have f25:=(D1.cell 25 (u:=U Y s.place) (λ _=>J)).2;have HD:=Zh_ D1;have hne:w.heap.size+1≠p.mb:=by omega
  clear D1 RB D0;go_wp2;have HRB2:=Zh_ (Zr (i:=25) (U Y n) HRB.out hne);refine bodyPost_ret (v:=(Z1 0:Xh).val) (results_cell_row (P:=N) (fn:=Tryz.f143) (p:=4) (ty:=152) J _ _ (w.heap.size+1) 152 _ (0,0) _ J (Xa HRB2.out (Z1 0)) underlying152 J (by kernel_rfl)) J ?_;exact ⟨0,by rw [HE.out];exact ⟨J,Y9 HH.out (HD.out.xz 25 (U Y n) {s.pop with place:=n} (λ _=>J) J J J J J J) (Z1 0)⟩⟩
theorem do12f (h:Zg w p s) (h0:0 < s.qd.length) (hb:s.qd.length<=64) (ht:Ud s.top=false) (n:Int) (x:Nat):Calls N 143 #[E (I ⟨p.mb,0,O⟩),A9 #[U Y 12,U Y n,Z V x]] w (P8 w p s ⟨12,n,x⟩):=by
 have D0:Zl ((w.alloc (X #[U Y 12,U Y n,Z V x] 106)).alloc Ye) p s ((w.alloc (X #[U Y 12,U Y n,Z V x] 106)).alloc Ye):=.same ((h.alloc _).alloc _);have hlt:=B9 h.hd;have HH:=Zh_ h;have he:∀ v,s.xt v ⟨12,n,x⟩=.ok ({s.pop with place:=s.place},Z1 0):=λ v=>by
  simp [Zk.xt,ht,Zk.pop]
 have HE:=Zh_ he;have c0:((w.alloc (X #[U Y 12,U Y n,Z V x] 106)).alloc Ye).cell? ⟨w.heap.size,0,O⟩=I (U Y 12):=Za (Zf _ (Zc _ _)) J;clear h he;go_enter func143,ntmps143;go_wp2_with fail
 go_region_held3 (λ wx=>wx.cell? ⟨w.heap.size,0,O⟩=I (U Y 12)) (first|exact c0|exact e0)
  (first
   |(go_at_call 164;refine (Xv D0.drew h0 hb).mono ?_;rintro e w2 ⟨rfl,D1⟩;have e0:w2.cell? ⟨w.heap.size,0,O⟩=I (U Y 12):=Za (Qz HH.out D1) J)
   |(go_at_call 163;refine (Tt _ _).mono ?_;rintro e w3 ⟨rfl,hw3⟩;have hw3':=hw3.symm;subst hw3';rw [ht]))
 all_goals
  have RB:=Y8 HH.out D1;have HRB:=Zh_ RB;have g0:=Za (i:=0) RB J;have z0:=Zb (i:=0) RB;have g1:=Za (i:=1) RB J;have z1:=Zb (i:=1) RB;have g2:=Za (i:=2) RB J;have z2:=Zb (i:=2) RB;have g3:=Za (i:=3) RB J;have z3:=Zb (i:=3) RB;have c1:w2.cell? ⟨w.heap.size,1,O⟩=I (U Y n):=Za (Qz HH.out D1) J;have r25:=(D1.cell 25 (u:=U Y s.place) (λ _=>J)).1;have f25:=(D1.cell 25 (u:=U Y s.place) (λ _=>J)).2;have HD:=Zh_ D1;have hne:w.heap.size+1≠p.mb:=by omega
  clear D1 RB D0;go_wp2;refine bodyPost_ret (v:=(Z1 0:Xh).val) (results_cell_row (P:=N) (fn:=Tryz.f143) (p:=4) (ty:=152) J _ _ (w.heap.size+1) 152 _ (0,0) _ J (Xa HRB.out (Z1 0)) underlying152 J (by kernel_rfl)) J ?_;exact ⟨0,by rw [HE.out];exact ⟨J,Y9 HH.out HD.out (Z1 0)⟩⟩
theorem do13t (h:Zg w p s) (h0:0 < s.qd.length) (hb:s.qd.length<=64) (ht:Ud s.top=true) (n:Int) (x:Nat):Calls N 143 #[E (I ⟨p.mb,0,O⟩),A9 #[U Y 13,U Y n,Z V x]] w (P8 w p s ⟨13,n,x⟩):=by
 have D0:Zl ((w.alloc (X #[U Y 13,U Y n,Z V x] 106)).alloc Ye) p s ((w.alloc (X #[U Y 13,U Y n,Z V x] 106)).alloc Ye):=.same ((h.alloc _).alloc _);have hlt:=B9 h.hd;have HH:=Zh_ h;have he:∀ v,s.xt v ⟨13,n,x⟩=.ok ({s.pop with place:=s.place},Z1 0):=λ v=>by
  simp [Zk.xt,ht,Zk.pop]
 have HE:=Zh_ he;have c0:((w.alloc (X #[U Y 13,U Y n,Z V x] 106)).alloc Ye).cell? ⟨w.heap.size,0,O⟩=I (U Y 13):=Za (Zf _ (Zc _ _)) J;clear h he;go_enter func143,ntmps143;go_wp2_with fail
 go_region_held3 (λ wx=>wx.cell? ⟨w.heap.size,0,O⟩=I (U Y 13)) (first|exact c0|exact e0)
  (first
   |(go_at_call 164;refine (Xv D0.drew h0 hb).mono ?_;rintro e w2 ⟨rfl,D1⟩;have e0:w2.cell? ⟨w.heap.size,0,O⟩=I (U Y 13):=Za (Qz HH.out D1) J)
   |(go_at_call 163;refine (Tt _ _).mono ?_;rintro e w3 ⟨rfl,hw3⟩;have hw3':=hw3.symm;subst hw3';rw [ht]))
 all_goals
  have RB:=Y8 HH.out D1;have HRB:=Zh_ RB;have g0:=Za (i:=0) RB J;have z0:=Zb (i:=0) RB;have g1:=Za (i:=1) RB J;have z1:=Zb (i:=1) RB;have g2:=Za (i:=2) RB J;have z2:=Zb (i:=2) RB;have g3:=Za (i:=3) RB J;have z3:=Zb (i:=3) RB;have c1:w2.cell? ⟨w.heap.size,1,O⟩=I (U Y n):=Za (Qz HH.out D1) J;have r25:=(D1.cell 25 (u:=U Y s.place) (λ _=>J)).1;have f25:=(D1.cell 25 (u:=U Y s.place) (λ _=>J)).2;have HD:=Zh_ D1;have hne:w.heap.size+1≠p.mb:=by omega
  clear D1 RB D0;go_wp2;refine bodyPost_ret (v:=(Z1 0:Xh).val) (results_cell_row (P:=N) (fn:=Tryz.f143) (p:=4) (ty:=152) J _ _ (w.heap.size+1) 152 _ (0,0) _ J (Xa HRB.out (Z1 0)) underlying152 J (by kernel_rfl)) J ?_;exact ⟨0,by rw [HE.out];exact ⟨J,Y9 HH.out HD.out (Z1 0)⟩⟩
theorem do13f (h:Zg w p s) (h0:0 < s.qd.length) (hb:s.qd.length<=64) (ht:Ud s.top=false) (n:Int) (x:Nat):Calls N 143 #[E (I ⟨p.mb,0,O⟩),A9 #[U Y 13,U Y n,Z V x]] w (P8 w p s ⟨13,n,x⟩):=by
 have D0:Zl ((w.alloc (X #[U Y 13,U Y n,Z V x] 106)).alloc Ye) p s ((w.alloc (X #[U Y 13,U Y n,Z V x] 106)).alloc Ye):=.same ((h.alloc _).alloc _);have hlt:=B9 h.hd;have HH:=Zh_ h;have he:∀ v,s.xt v ⟨13,n,x⟩=.ok ({s.pop with place:=n},Z1 0):=λ v=>by
  simp [Zk.xt,ht,Zk.pop]
 have HE:=Zh_ he;have c0:((w.alloc (X #[U Y 13,U Y n,Z V x] 106)).alloc Ye).cell? ⟨w.heap.size,0,O⟩=I (U Y 13):=Za (Zf _ (Zc _ _)) J;clear h he;go_enter func143,ntmps143;go_wp2_with fail
 go_region_held3 (λ wx=>wx.cell? ⟨w.heap.size,0,O⟩=I (U Y 13)) (first|exact c0|exact e0)
  (first
   |(go_at_call 164;refine (Xv D0.drew h0 hb).mono ?_;rintro e w2 ⟨rfl,D1⟩;have e0:w2.cell? ⟨w.heap.size,0,O⟩=I (U Y 13):=Za (Qz HH.out D1) J)
   |(go_at_call 163;refine (Tt _ _).mono ?_;rintro e w3 ⟨rfl,hw3⟩;have hw3':=hw3.symm;subst hw3';rw [ht]))
 all_goals
  have RB:=Y8 HH.out D1;have HRB:=Zh_ RB;have g0:=Za (i:=0) RB J;have z0:=Zb (i:=0) RB;have g1:=Za (i:=1) RB J;have z1:=Zb (i:=1) RB;have g2:=Za (i:=2) RB J;have z2:=Zb (i:=2) RB;have g3:=Za (i:=3) RB J;have z3:=Zb (i:=3) RB;have c1:w2.cell? ⟨w.heap.size,1,O⟩=I (U Y n):=Za (Qz HH.out D1) J;have r25:=(D1.cell 25 (u:=U Y s.place) (λ _=>J)).1;have f25:=(D1.cell 25 (u:=U Y s.place) (λ _=>J)).2;have HD:=Zh_ D1;have hne:w.heap.size+1≠p.mb:=by omega
  clear D1 RB D0;go_wp2;have HRB2:=Zh_ (Zr (i:=25) (U Y n) HRB.out hne);refine bodyPost_ret (v:=(Z1 0:Xh).val) (results_cell_row (P:=N) (fn:=Tryz.f143) (p:=4) (ty:=152) J _ _ (w.heap.size+1) 152 _ (0,0) _ J (Xa HRB2.out (Z1 0)) underlying152 J (by kernel_rfl)) J ?_;exact ⟨0,by rw [HE.out];exact ⟨J,Y9 HH.out (HD.out.xz 25 (U Y n) {s.pop with place:=n} (λ _=>J) J J J J J J) (Z1 0)⟩⟩
end
section
attribute [local go_sem] Zi
variable {w w' w0:W} {p p':MP} {s s':Zk}
theorem do14 (h:Zg w p s) (hk:s.calls.length < 16) (n:Int) (x:Nat):Calls N 143 #[E (I ⟨p.mb,0,O⟩),A9 #[U Y 14,U Y n,Z V x]] w (P8 w p s ⟨14,n,x⟩):=by
 have hA:Zg ((w.alloc (X #[U Y 14,U Y n,Z V x] 106)).alloc (X #[U Y 0,U Y 0,Z V 0,.bool false] 152)) p s:=(h.alloc _).alloc _;have hlt:=B9 h.hd;have HH:=Zh_ h;have HE:=Zh_ (show ∀ v,s.xt v ⟨14,n,x⟩=.ok ({s with calls:=s.calls++[s.place],place:=n},Z1 0) from λ _=>J);have r24:((w.alloc (X #[U Y 14,U Y n,Z V x] 106)).alloc (X #[U Y 0,U Y 0,Z V 0,.bool false] 152)).cell? ⟨p.mb,24,O⟩=I (E (I ⟨p.kb,0,O⟩)):=(hA.cell 24 J).1;have r25:((w.alloc (X #[U Y 14,U Y n,Z V x] 106)).alloc (X #[U Y 0,U Y 0,Z V 0,.bool false] 152)).cell? ⟨p.mb,25,O⟩=I (U Y s.place):=(hA.cell 25 J).1;clear h;go_enter func143,ntmps143;go_wp2_with fail;generalize hwa:(w.alloc (X #[U Y 14,U Y n,Z V x] 106)).alloc (X #[U Y 0,U Y 0,Z V 0,.bool false] 152)=wa at *
 have HW:=Zh_ hwa;clear hwa;go_still_tail 8,(by kernel_rfl);have hB:Zg wa.drew p s:=hA.mod ((Zr_ [] _).drew) (by simp);go_wp2_with fail;refine (O4 hB.calls (by omega) (by omega) s.place).mono ?_;rintro e w2 ⟨rfl,v',k1,k2,k3⟩;obtain ⟨k4,k5⟩:=hB.wm k1 k2 k3;have D1:Zl wa p {s with calls:=s.calls++[s.place]} w2:=Zl.pre ⟨_,k4,k5⟩ ((Zr_ _ _).drew);rw [<-HW.out] at D1;clear hA hB r24 r25 k1 k2 k3 k4 k5;have RB:=Y8 HH.out D1;have HRB:=Zh_ RB;have g0:=Za (i:=0) RB J;have z0:=Zb (i:=0) RB;have g1:=Za (i:=1) RB J;have z1:=Zb (i:=1) RB;have g2:=Za (i:=2) RB J;have z2:=Zb (i:=2) RB;have g3:=Za (i:=3) RB J;have z3:=Zb (i:=3) RB;have c1:w2.cell? ⟨w.heap.size,1,O⟩=I (U Y n):=Za (Qz HH.out D1) J;have r25:=(D1.cell 25 (u:=U Y s.place) (λ _=>J)).1;have f25:=(D1.cell 25 (u:=U Y s.place) (λ _=>J)).2;have HD:=Zh_ D1;have hne:w.heap.size+1≠p.mb:=by omega
 clear D1 RB;go_wp2;have HRB2:=Zh_ (Zr (i:=25) (U Y n) HRB.out hne);refine bodyPost_ret (v:=(Z1 0:Xh).val) (results_cell_row (P:=N) (fn:=Tryz.f143) (p:=4) (ty:=152) J _ _ (w.heap.size+1) 152 _ (0,0) _ J (Xa HRB2.out (Z1 0)) underlying152 J (by kernel_rfl)) J ?_;exact ⟨0,by rw [HE.out];exact ⟨J,Y9 HH.out (HD.out.xz 25 (U Y n) {s with calls:=s.calls++[s.place],place:=n} (λ _=>J) J J J J J J) (Z1 0)⟩⟩
theorem do15n (h:Zg w p s) (hk:s.calls=[]) (n:Int) (x:Nat):Calls N 143 #[E (I ⟨p.mb,0,O⟩),A9 #[U Y 15,U Y n,Z V x]] w (P8 w p s ⟨15,n,x⟩):=by
 have D0:Zl ((w.alloc (X #[U Y 15,U Y n,Z V x] 106)).alloc Ye) p s ((w.alloc (X #[U Y 15,U Y n,Z V x] 106)).alloc Ye):=.same ((h.alloc _).alloc _);have hlt:=B9 h.hd;have HH:=Zh_ h;have hA:=(h.alloc (X #[U Y 15,U Y n,Z V x] 106)).alloc Ye;have HE:=Zh_ (show ∀ v,s.xt v ⟨15,n,x⟩=.ok (s.ends 1 0 0,Z1 4) from λ _=>by simp [Zk.xt,hk]);have r24:=(h.cell 24 (u:=E (I ⟨p.kb,0,O⟩)) J).1;have hc:=hA.calls;rw [hk] at hc;clear h hk;go_enter func143,ntmps143;go_wp2_with fail;refine (O6 hc).mono ?_;rintro e w1 ⟨rfl,hw1⟩;have hw1':=hw1.symm;subst hw1';clear hc hA r24;go_wp2_with fail;refine (Dj D0 1 0 0).mono ?_;rintro e w1 ⟨he1,D1⟩;have he2:e=R9 (A9 #[U Y 4,U Y 0,Z V 0,.bool false]):=he1;subst he2;have RB:=Y8 HH.out D1;have HRB:=Zh_ RB;have g0:=Za (i:=0) RB J;have z0:=Zb (i:=0) RB;have g1:=Za (i:=1) RB J;have z1:=Zb (i:=1) RB;have g2:=Za (i:=2) RB J;have z2:=Zb (i:=2) RB;have g3:=Za (i:=3) RB J;have z3:=Zb (i:=3) RB;have HD:=Zh_ D1;clear D1 RB he1 D0;go_wp2;refine bodyPost_ret (v:=(Z1 4:Xh).val) (results_cell_row (P:=N) (fn:=Tryz.f143) (p:=4) (ty:=152) J _ _ (w.heap.size+1) 152 _ (0,0) _ J (Xa HRB.out (Z1 4)) underlying152 J (by kernel_rfl)) J ?_;exact ⟨0,by rw [HE.out];exact ⟨J,Y9 HH.out HD.out (Z1 4)⟩⟩
theorem do15 (h:Zg w p s) (l:List Int) (c:Int) (hk:s.calls=l++[c]) (hl:s.calls.length<=16) (n:Int) (x:Nat):Calls N 143 #[E (I ⟨p.mb,0,O⟩),A9 #[U Y 15,U Y n,Z V x]] w (P8 w p s ⟨15,n,x⟩):=by
 have D0:Zl ((w.alloc (X #[U Y 15,U Y n,Z V x] 106)).alloc Ye) p s ((w.alloc (X #[U Y 15,U Y n,Z V x] 106)).alloc Ye):=.same ((h.alloc _).alloc _);have hlt:=B9 h.hd;have HH:=Zh_ h;have hA:=(h.alloc (X #[U Y 15,U Y n,Z V x] 106)).alloc Ye;have HE:=Zh_ (show ∀ v,s.xt v ⟨15,n,x⟩=.ok ({s with calls:=s.calls.dropLast,place:=c},Z1 0) from λ _=>by simp [Zk.xt,hk]);have r24:=(h.cell 24 (u:=E (I ⟨p.kb,0,O⟩)) J).1;have hc:=hA.calls;have hd:s.calls.dropLast=l:=by rw [hk];simp
 have hll:l.length<=65535:=by have:=congrArg List.length hk;simp at this;omega
 rw [hk] at hc;have HA:=Zh_ hA;have HDD:=Zh_ hd;clear h hk hA hd;go_enter func143,ntmps143;go_wp2_with fail;refine (stk_popI hc hll).mono ?_;rintro e w2 ⟨rfl,v',k1,k2,k3⟩;obtain ⟨k4,k5⟩:=HA.out.wm k1 (.inl k2) (k3.mono (by simp));have D1:Zl ((w.alloc (X #[U Y 15,U Y n,Z V x] 106)).alloc Ye) p {s with calls:=l} w2:=⟨_,k4,k5⟩;clear hc r24 k1 k2 k3 k4 k5 D0;have RB:=Y8 HH.out D1;have HRB:=Zh_ RB;have g0:=Za (i:=0) RB J;have z0:=Zb (i:=0) RB;have g1:=Za (i:=1) RB J;have z1:=Zb (i:=1) RB;have g2:=Za (i:=2) RB J;have z2:=Zb (i:=2) RB;have g3:=Za (i:=3) RB J;have z3:=Zb (i:=3) RB;have c1:w2.cell? ⟨w.heap.size,1,O⟩=I (U Y n):=Za (Qz HH.out D1) J;have r25:=(D1.cell 25 (u:=U Y s.place) (λ _=>J)).1;have f25:=(D1.cell 25 (u:=U Y s.place) (λ _=>J)).2;have HD:=Zh_ D1;have hne:w.heap.size+1≠p.mb:=by omega
 clear D1 RB;go_wp2;have HRB2:=Zh_ (Zr (i:=25) (U Y c) HRB.out hne);refine bodyPost_ret (v:=(Z1 0:Xh).val) (results_cell_row (P:=N) (fn:=Tryz.f143) (p:=4) (ty:=152) J _ _ (w.heap.size+1) 152 _ (0,0) _ J (Xa HRB2.out (Z1 0)) underlying152 J (by kernel_rfl)) J ?_;exact ⟨0,by rw [HE.out,HDD.out];exact ⟨J,Y9 HH.out (HD.out.xz 25 (U Y c) {s with calls:=l,place:=c} (λ _=>J) J J J J J J) (Z1 0)⟩⟩
end
section
attribute [local go_sem] Zi
variable {w w' w0:W} {p p':MP} {s s':Zk}
theorem do1 (h:Zg w p s) (n:Int) (x:Nat) (hc:∀ w1,Zg w1 p s->Calls N 167 #[E (I ⟨p.mb,0,O⟩),A9 #[U Y 1,U Y n,Z V x]] w1 (Jm w1 p s ⟨1,n,x⟩)):Calls N 143 #[E (I ⟨p.mb,0,O⟩),A9 #[U Y 1,U Y n,Z V x]] w (P8 w p s ⟨1,n,x⟩):=by
 have D0:Zl ((w.alloc (X #[U Y 1,U Y n,Z V x] 106)).alloc Ye) p s ((w.alloc (X #[U Y 1,U Y n,Z V x] 106)).alloc Ye):=.same ((h.alloc _).alloc _);have hlt:=B9 h.hd;have HH:=Zh_ h;have hr:=hc _ ((h.alloc (X #[U Y 1,U Y n,Z V x] 106)).alloc Ye);have HE:=Zh_ (show ∀ v,s.xt v ⟨1,n,x⟩=.ok (s.reckon v ⟨1,n,x⟩,Z1 0) from λ _=>J);clear hc h;go_enter func143,ntmps143;go_wp2_with fail;refine hr.mono ?_;rintro e w1 ⟨rfl,v,D1⟩;have RB:=Y8 HH.out D1;have HRB:=Zh_ RB;have g0:=Za (i:=0) RB J;have z0:=Zb (i:=0) RB;have g1:=Za (i:=1) RB J;have z1:=Zb (i:=1) RB;have g2:=Za (i:=2) RB J;have z2:=Zb (i:=2) RB;have g3:=Za (i:=3) RB J;have z3:=Zb (i:=3) RB;have HD:=Zh_ D1;clear D1 RB D0 hr;go_wp2;refine bodyPost_ret (v:=(Z1 0:Xh).val) (results_cell_row (P:=N) (fn:=Tryz.f143) (p:=4) (ty:=152) J _ _ (w.heap.size+1) 152 _ (0,0) _ J (Xa HRB.out (Z1 0)) underlying152 J (by kernel_rfl)) J ?_;exact ⟨v,by rw [HE.out];exact ⟨J,Y9 HH.out HD.out (Z1 0)⟩⟩
theorem do2 (h:Zg w p s) (n:Int) (x:Nat) (hc:∀ w1,Zg w1 p s->Calls N 167 #[E (I ⟨p.mb,0,O⟩),A9 #[U Y 2,U Y n,Z V x]] w1 (Jm w1 p s ⟨2,n,x⟩)):Calls N 143 #[E (I ⟨p.mb,0,O⟩),A9 #[U Y 2,U Y n,Z V x]] w (P8 w p s ⟨2,n,x⟩):=by
 have D0:Zl ((w.alloc (X #[U Y 2,U Y n,Z V x] 106)).alloc Ye) p s ((w.alloc (X #[U Y 2,U Y n,Z V x] 106)).alloc Ye):=.same ((h.alloc _).alloc _);have hlt:=B9 h.hd;have HH:=Zh_ h;have hr:=hc _ ((h.alloc (X #[U Y 2,U Y n,Z V x] 106)).alloc Ye);have HE:=Zh_ (show ∀ v,s.xt v ⟨2,n,x⟩=.ok (s.reckon v ⟨2,n,x⟩,Z1 0) from λ _=>J);clear hc h;go_enter func143,ntmps143;go_wp2_with fail;refine hr.mono ?_;rintro e w1 ⟨rfl,v,D1⟩;have RB:=Y8 HH.out D1;have HRB:=Zh_ RB;have g0:=Za (i:=0) RB J;have z0:=Zb (i:=0) RB;have g1:=Za (i:=1) RB J;have z1:=Zb (i:=1) RB;have g2:=Za (i:=2) RB J;have z2:=Zb (i:=2) RB;have g3:=Za (i:=3) RB J;have z3:=Zb (i:=3) RB;have HD:=Zh_ D1;clear D1 RB D0 hr;go_wp2;refine bodyPost_ret (v:=(Z1 0:Xh).val) (results_cell_row (P:=N) (fn:=Tryz.f143) (p:=4) (ty:=152) J _ _ (w.heap.size+1) 152 _ (0,0) _ J (Xa HRB.out (Z1 0)) underlying152 J (by kernel_rfl)) J ?_;exact ⟨v,by rw [HE.out];exact ⟨J,Y9 HH.out HD.out (Z1 0)⟩⟩
theorem do3 (h:Zg w p s) (n:Int) (x:Nat) (hc:∀ w1,Zg w1 p s->Calls N 167 #[E (I ⟨p.mb,0,O⟩),A9 #[U Y 3,U Y n,Z V x]] w1 (Jm w1 p s ⟨3,n,x⟩)):Calls N 143 #[E (I ⟨p.mb,0,O⟩),A9 #[U Y 3,U Y n,Z V x]] w (P8 w p s ⟨3,n,x⟩):=by
 have D0:Zl ((w.alloc (X #[U Y 3,U Y n,Z V x] 106)).alloc Ye) p s ((w.alloc (X #[U Y 3,U Y n,Z V x] 106)).alloc Ye):=.same ((h.alloc _).alloc _);have hlt:=B9 h.hd;have HH:=Zh_ h;have hr:=hc _ ((h.alloc (X #[U Y 3,U Y n,Z V x] 106)).alloc Ye);have HE:=Zh_ (show ∀ v,s.xt v ⟨3,n,x⟩=.ok (s.reckon v ⟨3,n,x⟩,Z1 0) from λ _=>J);clear hc h;go_enter func143,ntmps143;go_wp2_with fail;refine hr.mono ?_;rintro e w1 ⟨rfl,v,D1⟩;have RB:=Y8 HH.out D1;have HRB:=Zh_ RB;have g0:=Za (i:=0) RB J;have z0:=Zb (i:=0) RB;have g1:=Za (i:=1) RB J;have z1:=Zb (i:=1) RB;have g2:=Za (i:=2) RB J;have z2:=Zb (i:=2) RB;have g3:=Za (i:=3) RB J;have z3:=Zb (i:=3) RB;have HD:=Zh_ D1;clear D1 RB D0 hr;go_wp2;refine bodyPost_ret (v:=(Z1 0:Xh).val) (results_cell_row (P:=N) (fn:=Tryz.f143) (p:=4) (ty:=152) J _ _ (w.heap.size+1) 152 _ (0,0) _ J (Xa HRB.out (Z1 0)) underlying152 J (by kernel_rfl)) J ?_;exact ⟨v,by rw [HE.out];exact ⟨J,Y9 HH.out HD.out (Z1 0)⟩⟩
theorem do4 (h:Zg w p s) (n:Int) (x:Nat) (hc:∀ w1,Zg w1 p s->Calls N 167 #[E (I ⟨p.mb,0,O⟩),A9 #[U Y 4,U Y n,Z V x]] w1 (Jm w1 p s ⟨4,n,x⟩)):Calls N 143 #[E (I ⟨p.mb,0,O⟩),A9 #[U Y 4,U Y n,Z V x]] w (P8 w p s ⟨4,n,x⟩):=by
 have D0:Zl ((w.alloc (X #[U Y 4,U Y n,Z V x] 106)).alloc Ye) p s ((w.alloc (X #[U Y 4,U Y n,Z V x] 106)).alloc Ye):=.same ((h.alloc _).alloc _);have hlt:=B9 h.hd;have HH:=Zh_ h;have hr:=hc _ ((h.alloc (X #[U Y 4,U Y n,Z V x] 106)).alloc Ye);have HE:=Zh_ (show ∀ v,s.xt v ⟨4,n,x⟩=.ok (s.reckon v ⟨4,n,x⟩,Z1 0) from λ _=>J);clear hc h;go_enter func143,ntmps143;go_wp2_with fail;refine hr.mono ?_;rintro e w1 ⟨rfl,v,D1⟩;have RB:=Y8 HH.out D1;have HRB:=Zh_ RB;have g0:=Za (i:=0) RB J;have z0:=Zb (i:=0) RB;have g1:=Za (i:=1) RB J;have z1:=Zb (i:=1) RB;have g2:=Za (i:=2) RB J;have z2:=Zb (i:=2) RB;have g3:=Za (i:=3) RB J;have z3:=Zb (i:=3) RB;have HD:=Zh_ D1;clear D1 RB D0 hr;go_wp2;refine bodyPost_ret (v:=(Z1 0:Xh).val) (results_cell_row (P:=N) (fn:=Tryz.f143) (p:=4) (ty:=152) J _ _ (w.heap.size+1) 152 _ (0,0) _ J (Xa HRB.out (Z1 0)) underlying152 J (by kernel_rfl)) J ?_;exact ⟨v,by rw [HE.out];exact ⟨J,Y9 HH.out HD.out (Z1 0)⟩⟩
theorem do5 (h:Zg w p s) (n:Int) (x:Nat) (hc:∀ w1,Zg w1 p s->Calls N 167 #[E (I ⟨p.mb,0,O⟩),A9 #[U Y 5,U Y n,Z V x]] w1 (Jm w1 p s ⟨5,n,x⟩)):Calls N 143 #[E (I ⟨p.mb,0,O⟩),A9 #[U Y 5,U Y n,Z V x]] w (P8 w p s ⟨5,n,x⟩):=by
 have D0:Zl ((w.alloc (X #[U Y 5,U Y n,Z V x] 106)).alloc Ye) p s ((w.alloc (X #[U Y 5,U Y n,Z V x] 106)).alloc Ye):=.same ((h.alloc _).alloc _);have hlt:=B9 h.hd;have HH:=Zh_ h;have hr:=hc _ ((h.alloc (X #[U Y 5,U Y n,Z V x] 106)).alloc Ye);have HE:=Zh_ (show ∀ v,s.xt v ⟨5,n,x⟩=.ok (s.reckon v ⟨5,n,x⟩,Z1 0) from λ _=>J);clear hc h;go_enter func143,ntmps143;go_wp2_with fail;refine hr.mono ?_;rintro e w1 ⟨rfl,v,D1⟩;have RB:=Y8 HH.out D1;have HRB:=Zh_ RB;have g0:=Za (i:=0) RB J;have z0:=Zb (i:=0) RB;have g1:=Za (i:=1) RB J;have z1:=Zb (i:=1) RB;have g2:=Za (i:=2) RB J;have z2:=Zb (i:=2) RB;have g3:=Za (i:=3) RB J;have z3:=Zb (i:=3) RB;have HD:=Zh_ D1;clear D1 RB D0 hr;go_wp2;refine bodyPost_ret (v:=(Z1 0:Xh).val) (results_cell_row (P:=N) (fn:=Tryz.f143) (p:=4) (ty:=152) J _ _ (w.heap.size+1) 152 _ (0,0) _ J (Xa HRB.out (Z1 0)) underlying152 J (by kernel_rfl)) J ?_;exact ⟨v,by rw [HE.out];exact ⟨J,Y9 HH.out HD.out (Z1 0)⟩⟩
theorem do6 (h:Zg w p s) (n:Int) (x:Nat) (hc:∀ w1,Zg w1 p s->Calls N 167 #[E (I ⟨p.mb,0,O⟩),A9 #[U Y 6,U Y n,Z V x]] w1 (Jm w1 p s ⟨6,n,x⟩)):Calls N 143 #[E (I ⟨p.mb,0,O⟩),A9 #[U Y 6,U Y n,Z V x]] w (P8 w p s ⟨6,n,x⟩):=by
 have D0:Zl ((w.alloc (X #[U Y 6,U Y n,Z V x] 106)).alloc Ye) p s ((w.alloc (X #[U Y 6,U Y n,Z V x] 106)).alloc Ye):=.same ((h.alloc _).alloc _);have hlt:=B9 h.hd;have HH:=Zh_ h;have hr:=hc _ ((h.alloc (X #[U Y 6,U Y n,Z V x] 106)).alloc Ye);have HE:=Zh_ (show ∀ v,s.xt v ⟨6,n,x⟩=.ok (s.reckon v ⟨6,n,x⟩,Z1 0) from λ _=>J);clear hc h;go_enter func143,ntmps143;go_wp2_with fail;refine hr.mono ?_;rintro e w1 ⟨rfl,v,D1⟩;have RB:=Y8 HH.out D1;have HRB:=Zh_ RB;have g0:=Za (i:=0) RB J;have z0:=Zb (i:=0) RB;have g1:=Za (i:=1) RB J;have z1:=Zb (i:=1) RB;have g2:=Za (i:=2) RB J;have z2:=Zb (i:=2) RB;have g3:=Za (i:=3) RB J;have z3:=Zb (i:=3) RB;have HD:=Zh_ D1;clear D1 RB D0 hr;go_wp2;refine bodyPost_ret (v:=(Z1 0:Xh).val) (results_cell_row (P:=N) (fn:=Tryz.f143) (p:=4) (ty:=152) J _ _ (w.heap.size+1) 152 _ (0,0) _ J (Xa HRB.out (Z1 0)) underlying152 J (by kernel_rfl)) J ?_;exact ⟨v,by rw [HE.out];exact ⟨J,Y9 HH.out HD.out (Z1 0)⟩⟩
theorem do7 (h:Zg w p s) (n:Int) (x:Nat) (hc:∀ w1,Zg w1 p s->Calls N 167 #[E (I ⟨p.mb,0,O⟩),A9 #[U Y 7,U Y n,Z V x]] w1 (Jm w1 p s ⟨7,n,x⟩)):Calls N 143 #[E (I ⟨p.mb,0,O⟩),A9 #[U Y 7,U Y n,Z V x]] w (P8 w p s ⟨7,n,x⟩):=by
 have D0:Zl ((w.alloc (X #[U Y 7,U Y n,Z V x] 106)).alloc Ye) p s ((w.alloc (X #[U Y 7,U Y n,Z V x] 106)).alloc Ye):=.same ((h.alloc _).alloc _);have hlt:=B9 h.hd;have HH:=Zh_ h;have hr:=hc _ ((h.alloc (X #[U Y 7,U Y n,Z V x] 106)).alloc Ye);have HE:=Zh_ (show ∀ v,s.xt v ⟨7,n,x⟩=.ok (s.reckon v ⟨7,n,x⟩,Z1 0) from λ _=>J);clear hc h;go_enter func143,ntmps143;go_wp2_with fail;refine hr.mono ?_;rintro e w1 ⟨rfl,v,D1⟩;have RB:=Y8 HH.out D1;have HRB:=Zh_ RB;have g0:=Za (i:=0) RB J;have z0:=Zb (i:=0) RB;have g1:=Za (i:=1) RB J;have z1:=Zb (i:=1) RB;have g2:=Za (i:=2) RB J;have z2:=Zb (i:=2) RB;have g3:=Za (i:=3) RB J;have z3:=Zb (i:=3) RB;have HD:=Zh_ D1;clear D1 RB D0 hr;go_wp2;refine bodyPost_ret (v:=(Z1 0:Xh).val) (results_cell_row (P:=N) (fn:=Tryz.f143) (p:=4) (ty:=152) J _ _ (w.heap.size+1) 152 _ (0,0) _ J (Xa HRB.out (Z1 0)) underlying152 J (by kernel_rfl)) J ?_;exact ⟨v,by rw [HE.out];exact ⟨J,Y9 HH.out HD.out (Z1 0)⟩⟩
theorem do8 (h:Zg w p s) (n:Int) (x:Nat) (hc:∀ w1,Zg w1 p s->Calls N 167 #[E (I ⟨p.mb,0,O⟩),A9 #[U Y 8,U Y n,Z V x]] w1 (Jm w1 p s ⟨8,n,x⟩)):Calls N 143 #[E (I ⟨p.mb,0,O⟩),A9 #[U Y 8,U Y n,Z V x]] w (P8 w p s ⟨8,n,x⟩):=by
 have D0:Zl ((w.alloc (X #[U Y 8,U Y n,Z V x] 106)).alloc Ye) p s ((w.alloc (X #[U Y 8,U Y n,Z V x] 106)).alloc Ye):=.same ((h.alloc _).alloc _);have hlt:=B9 h.hd;have HH:=Zh_ h;have hr:=hc _ ((h.alloc (X #[U Y 8,U Y n,Z V x] 106)).alloc Ye);have HE:=Zh_ (show ∀ v,s.xt v ⟨8,n,x⟩=.ok (s.reckon v ⟨8,n,x⟩,Z1 0) from λ _=>J);clear hc h;go_enter func143,ntmps143;go_wp2_with fail;refine hr.mono ?_;rintro e w1 ⟨rfl,v,D1⟩;have RB:=Y8 HH.out D1;have HRB:=Zh_ RB;have g0:=Za (i:=0) RB J;have z0:=Zb (i:=0) RB;have g1:=Za (i:=1) RB J;have z1:=Zb (i:=1) RB;have g2:=Za (i:=2) RB J;have z2:=Zb (i:=2) RB;have g3:=Za (i:=3) RB J;have z3:=Zb (i:=3) RB;have HD:=Zh_ D1;clear D1 RB D0 hr;go_wp2;refine bodyPost_ret (v:=(Z1 0:Xh).val) (results_cell_row (P:=N) (fn:=Tryz.f143) (p:=4) (ty:=152) J _ _ (w.heap.size+1) 152 _ (0,0) _ J (Xa HRB.out (Z1 0)) underlying152 J (by kernel_rfl)) J ?_;exact ⟨v,by rw [HE.out];exact ⟨J,Y9 HH.out HD.out (Z1 0)⟩⟩
theorem do9 (h:Zg w p s) (n:Int) (x:Nat) (hc:∀ w1,Zg w1 p s->Calls N 167 #[E (I ⟨p.mb,0,O⟩),A9 #[U Y 9,U Y n,Z V x]] w1 (Jm w1 p s ⟨9,n,x⟩)):Calls N 143 #[E (I ⟨p.mb,0,O⟩),A9 #[U Y 9,U Y n,Z V x]] w (P8 w p s ⟨9,n,x⟩):=by
 have D0:Zl ((w.alloc (X #[U Y 9,U Y n,Z V x] 106)).alloc Ye) p s ((w.alloc (X #[U Y 9,U Y n,Z V x] 106)).alloc Ye):=.same ((h.alloc _).alloc _);have hlt:=B9 h.hd;have HH:=Zh_ h;have hr:=hc _ ((h.alloc (X #[U Y 9,U Y n,Z V x] 106)).alloc Ye);have HE:=Zh_ (show ∀ v,s.xt v ⟨9,n,x⟩=.ok (s.reckon v ⟨9,n,x⟩,Z1 0) from λ _=>J);clear hc h;go_enter func143,ntmps143;go_wp2_with fail;refine hr.mono ?_;rintro e w1 ⟨rfl,v,D1⟩;have RB:=Y8 HH.out D1;have HRB:=Zh_ RB;have g0:=Za (i:=0) RB J;have z0:=Zb (i:=0) RB;have g1:=Za (i:=1) RB J;have z1:=Zb (i:=1) RB;have g2:=Za (i:=2) RB J;have z2:=Zb (i:=2) RB;have g3:=Za (i:=3) RB J;have z3:=Zb (i:=3) RB;have HD:=Zh_ D1;clear D1 RB D0 hr;go_wp2;refine bodyPost_ret (v:=(Z1 0:Xh).val) (results_cell_row (P:=N) (fn:=Tryz.f143) (p:=4) (ty:=152) J _ _ (w.heap.size+1) 152 _ (0,0) _ J (Xa HRB.out (Z1 0)) underlying152 J (by kernel_rfl)) J ?_;exact ⟨v,by rw [HE.out];exact ⟨J,Y9 HH.out HD.out (Z1 0)⟩⟩
theorem do10 (h:Zg w p s) (n:Int) (x:Nat) (hc:∀ w1,Zg w1 p s->Calls N 167 #[E (I ⟨p.mb,0,O⟩),A9 #[U Y 10,U Y n,Z V x]] w1 (Jm w1 p s ⟨10,n,x⟩)):Calls N 143 #[E (I ⟨p.mb,0,O⟩),A9 #[U Y 10,U Y n,Z V x]] w (P8 w p s ⟨10,n,x⟩):=by
 have D0:Zl ((w.alloc (X #[U Y 10,U Y n,Z V x] 106)).alloc Ye) p s ((w.alloc (X #[U Y 10,U Y n,Z V x] 106)).alloc Ye):=.same ((h.alloc _).alloc _);have hlt:=B9 h.hd;have HH:=Zh_ h;have hr:=hc _ ((h.alloc (X #[U Y 10,U Y n,Z V x] 106)).alloc Ye);have HE:=Zh_ (show ∀ v,s.xt v ⟨10,n,x⟩=.ok (s.reckon v ⟨10,n,x⟩,Z1 0) from λ _=>J);clear hc h;go_enter func143,ntmps143;go_wp2_with fail;refine hr.mono ?_;rintro e w1 ⟨rfl,v,D1⟩;have RB:=Y8 HH.out D1;have HRB:=Zh_ RB;have g0:=Za (i:=0) RB J;have z0:=Zb (i:=0) RB;have g1:=Za (i:=1) RB J;have z1:=Zb (i:=1) RB;have g2:=Za (i:=2) RB J;have z2:=Zb (i:=2) RB;have g3:=Za (i:=3) RB J;have z3:=Zb (i:=3) RB;have HD:=Zh_ D1;clear D1 RB D0 hr;go_wp2;refine bodyPost_ret (v:=(Z1 0:Xh).val) (results_cell_row (P:=N) (fn:=Tryz.f143) (p:=4) (ty:=152) J _ _ (w.heap.size+1) 152 _ (0,0) _ J (Xa HRB.out (Z1 0)) underlying152 J (by kernel_rfl)) J ?_;exact ⟨v,by rw [HE.out];exact ⟨J,Y9 HH.out HD.out (Z1 0)⟩⟩
theorem do18 (h:Zg w p s) (n:Int) (x:Nat) (hc:∀ w1,Zg w1 p s->Calls N 167 #[E (I ⟨p.mb,0,O⟩),A9 #[U Y 18,U Y n,Z V x]] w1 (Jm w1 p s ⟨18,n,x⟩)):Calls N 143 #[E (I ⟨p.mb,0,O⟩),A9 #[U Y 18,U Y n,Z V x]] w (P8 w p s ⟨18,n,x⟩):=by
 have D0:Zl ((w.alloc (X #[U Y 18,U Y n,Z V x] 106)).alloc Ye) p s ((w.alloc (X #[U Y 18,U Y n,Z V x] 106)).alloc Ye):=.same ((h.alloc _).alloc _);have hlt:=B9 h.hd;have HH:=Zh_ h;have hr:=hc _ ((h.alloc (X #[U Y 18,U Y n,Z V x] 106)).alloc Ye);have HE:=Zh_ (show ∀ v,s.xt v ⟨18,n,x⟩=.ok (s.reckon v ⟨18,n,x⟩,Z1 0) from λ _=>J);clear hc h;go_enter func143,ntmps143;go_wp2_with fail;refine hr.mono ?_;rintro e w1 ⟨rfl,v,D1⟩;have RB:=Y8 HH.out D1;have HRB:=Zh_ RB;have g0:=Za (i:=0) RB J;have z0:=Zb (i:=0) RB;have g1:=Za (i:=1) RB J;have z1:=Zb (i:=1) RB;have g2:=Za (i:=2) RB J;have z2:=Zb (i:=2) RB;have g3:=Za (i:=3) RB J;have z3:=Zb (i:=3) RB;have HD:=Zh_ D1;clear D1 RB D0 hr;go_wp2;refine bodyPost_ret (v:=(Z1 0:Xh).val) (results_cell_row (P:=N) (fn:=Tryz.f143) (p:=4) (ty:=152) J _ _ (w.heap.size+1) 152 _ (0,0) _ J (Xa HRB.out (Z1 0)) underlying152 J (by kernel_rfl)) J ?_;exact ⟨v,by rw [HE.out];exact ⟨J,Y9 HH.out HD.out (Z1 0)⟩⟩
end
section
attribute [local go_sem] Zi
variable {w w' w0:W} {p p':MP} {s s':Zk}
theorem Dk {i:Xg} {qY:Int} (hm:i.may qY=true):1<=i.op/\i.op<=20:=by
 unfold Xg.may at hm
 by_cases h:i.op<=0\/20 < i.op
 ·rw [P9 h] at hm;simp at hm
 ·omega
theorem may_n {k n:Int} {x:Nat} {qY:Int} (hm:(⟨k,n,x⟩:Xg).may qY=true):(if Um k=-2 then n=0 else if Um k=-1 then 0<=n/\n < qY else if k=9\/k=10 then 1<=n/\n<=Um k else 0<=n/\n<=Um k):=by
 unfold Xg.may at hm;simp only at hm;split at hm
 ·simp at hm
 ·split at hm
  ·simp at hm
  ·split at hm
   ·rename_i h;rw [P9 h];simpa using hm
   ·rename_i h;rw [Q9 h];split at hm
    ·rename_i h;rw [P9 h];simpa using hm
    ·rename_i h;rw [Q9 h];split at hm
     ·rename_i h;rw [P9 h];simpa using hm
     ·rename_i h;rw [Q9 h];simpa using hm
theorem Tx {k n:Int} {x:Nat} (hr:s.qt ⟨k,n,x⟩=true):(if k=5 then n+1 else Xe k)<=(s.qd.length:Int)/\(s.qd.length:Int) - Xe k+Qr k<=64/\(k=14->(s.calls.length:Int)≠16):=by
 have e:s.qt ⟨k,n,x⟩=!((decide ((s.qd.length:Int) < (if k=5 then n+1 else Xe k)) || decide (64 < (s.qd.length:Int) - Xe k+Qr k)) || (k==14&&((s.calls.length:Int)==16))):=J;rw [e] at hr;simp only [Bool.not_eq_true',Bool.or_eq_false_iff,decide_eq_false_iff_not,Bool.and_eq_false_iff,beq_eq_false_iff_ne] at hr;obtain ⟨⟨h1,h2⟩,h3⟩:=hr;refine ⟨by omega,by omega,λ h=>?_⟩;rcases h3 with h3|h3
 ·exact absurd h h3
 ·exact h3
theorem do_c (h:Zg w p s) (i:Xg) {qY:Int} (hm:i.may qY=true) (hr:s.qt i=true) (hb:s.qd.length<=64) (hk:s.calls.length<=16) (ho:s.out.length<=4096) (hrd:s.reads.length<=4096) (hc0:s.c0<=256):Calls N 143 #[E (I ⟨p.mb,0,O⟩),i.val] w (P8 w p s i):=by
 obtain ⟨r1,r2⟩:=Dk hm;obtain ⟨k,n,x⟩:=i;have hn:=may_n hm;obtain ⟨q1,q2,q3⟩:=Tx hr;simp only at r1 r2;have hcw:∀ c,Vf s.top s.c0=I c->(Lit.int .i64 c).wf=true:=λ c hc=>Cq (by have:=T9 hc;omega);show Calls N 143 #[E (I ⟨p.mb,0,O⟩),A9 #[.int .i64 k,.int .i64 n,Z V x]] w (P8 w p s ⟨k,n,x⟩);rcases (show k=1\/k=2\/k=3\/k=4\/k=5\/k=6\/k=7\/k=8\/k=9\/k=10\/k=11\/k=12\/k=13\/k=14\/k=15\/k=16\/k=17\/k=18\/k=19\/k=20 by omega) with rfl|rfl|rfl|rfl|rfl|rfl|rfl|rfl|rfl|rfl|rfl|rfl|rfl|rfl|rfl|rfl|rfl|rfl|rfl|rfl
 ·have e2:(s.qd.length:Int) - 0+1<=64:=q2;exact do1 h n x (λ w1 h1=>reckon1 h1 n x (by omega))
 ·have e1:(1:Int)<=s.qd.length:=q1;exact do2 h n x (λ w1 h1=>reckon2 h1 n x (by omega) hb)
 ·have e1:(1:Int)<=s.qd.length:=q1;have e2:(s.qd.length:Int) - 1+2<=64:=q2;exact do3 h n x (λ w1 h1=>reckon3 h1 n x (by omega) (by omega))
 ·have e1:(2:Int)<=s.qd.length:=q1;exact do4 h n x (λ w1 h1=>reckon4 h1 n x (by omega) hb)
 ·have e1:n+1<=(s.qd.length:Int):=q1;have e2:(s.qd.length:Int) - 0+1<=64:=q2;have e3:0<=n/\n<=63:=hn;exact do5 h n x (λ w1 h1=>reckon5 h1 n x e3.1 (by omega) (by omega))
 ·have e2:(s.qd.length:Int) - 0+1<=64:=q2;have e3:0<=n/\n<=7:=hn;exact do6 h n x (λ w1 h1=>reckon6 h1 n x e3.1 (by omega) (by omega))
 ·have e2:(s.qd.length:Int) - 0+1<=64:=q2;have e3:0<=n/\n<=7:=hn;exact do7 h n x (λ w1 h1=>reckon7 h1 n x e3.1 (by omega) (by omega))
 ·have e1:(1:Int)<=s.qd.length:=q1;have e3:0<=n/\n<=7:=hn;exact do8 h n x (λ w1 h1=>reckon8 h1 n x e3.1 (by omega) (by omega) hb)
 ·have e1:(1:Int)<=s.qd.length:=q1;have e3:1<=n/\n<=8:=hn;exact do9 h n x (λ w1 h1=>reckon9 h1 n x e3.1 e3.2 (by omega) hb)
 ·have e1:(2:Int)<=s.qd.length:=q1;have e3:1<=n/\n<=12:=hn;exact do10 h n x (λ w1 h1=>reckon10 h1 n x e3.1 e3.2 (by omega) hb)
 ·exact do11 h n x
 ·have e1:(1:Int)<=s.qd.length:=q1;cases ht:Ud s.top
  ·exact do12f h (by omega) hb ht n x
  ·exact do12t h (by omega) hb ht n x
 ·have e1:(1:Int)<=s.qd.length:=q1;cases ht:Ud s.top
  ·exact do13f h (by omega) hb ht n x
  ·exact do13t h (by omega) hb ht n x
 ·exact do14 h (by have:=q3 J;omega) n x
 ·cases hl:s.calls.reverse with
  |nil=>exact do15n h (by simpa using hl) n x
  |cons c l=>exact do15 h l.reverse c (by rw [<-List.reverse_reverse s.calls,hl];simp) hk n x
 ·have e1:(1:Int)<=s.qd.length:=q1;refine do16 h n x (λ w1 h1=>?_);cases hi:Vf s.top s.c0 with
  |none=>exact read_no h1 (by omega) hb hi
  |some c=>
   cases hkn:s.buf.known c
   ·exact Ek h1 (by omega) hb hi hkn (hcw c hi)
   ·exact read_own h1 (by omega) hb hi hkn (hcw c hi) hrd
 ·have e1:(2:Int)<=s.qd.length:=q1;refine do17 h n x (λ w1 h1=>?_)
  by_cases ht:s.tag=2
  ·cases hi:Vf s.top s.c0 with
   |none=>exact write_no h1 (by omega) hb ht hi
   |some c=>
    cases hkn:s.buf.known c
    ·by_cases hf:(s.buf.order.length:Int)=s.buf.qy
     ·exact Ry h1 (by omega) hb ht hi (hcw c hi) hkn hf
     ·exact On h1 (by omega) hb ht hi (hcw c hi) hkn (by have:=h1.buf.room;omega)
    ·exact Co h1 (by omega) hb ht hi (hcw c hi) hkn
  ·exact write_ro h1 ht
 ·have e1:(1:Int)<=s.qd.length:=q1;exact do18 h n x (λ w1 h1=>reckon18 h1 n x (by omega) hb ho)
 ·exact do19 h n x
 ·exact do20 h n x
end
section
attribute [local go_sem] Zi
variable {w w' w0:W} {p p':MP} {s s':Zk}
def Rt (p:MP):Obj:=X #[E (I ⟨p.mb,0,O⟩)] 155
theorem catch_i (x r:Nat) (w:W):CallsD N 139 #[E (I ⟨x,0,O⟩),E (I ⟨r,0,O⟩)] .returning w λ e u' w'=>e=R9 (.tuple #[])/\u'=.returning/\w'=w:=by
 refine callsD_of_wpS func139 J λ c₀ cs hu=>?_;apply wpS_seq;apply wpS_region;simp [wpOpsS,go_sem,recoverD,hu,ntmps139,Exit.thenS];refine wpS_of_wp ?_;go_wp2;cases c₀
 simp_all [bodyPostS,results,results139]
theorem assert_f (c:Int) (w:W):(Instr.typeAssert (.iface 235 (U Y c)) 20 235 true).run N w=.ok (.tuple #[U Y c,.bool true]) w:=by
 simp [Instr.typeAssert,run_underlying underlying235,go_sem,Result.andThen]
theorem lit20 (A B v:Value):(#[A,B]++((Array.replicate 18 undef).setIfInBounds 3 v).setIfInBounds 0 v)=#[A,B,v,undef,undef,v,undef,undef,undef,undef,undef,undef,undef,undef,undef,undef,undef,undef,undef,undef]:=by kernel_rfl
theorem Hg (h:Zg w p s) {w1:W} (D:Zl ((w.alloc (Rt p)).alloc Ye) p s' w1) (c:Int):CallsD N 139 #[E (I ⟨w.heap.size,0,O⟩),E (I ⟨(w.heap.size+1),0,O⟩)] (.panicking [{v:=.iface 235 (U Y c),recovered:=false}]) w1 λ e u' w'=>
  e=R9 (.tuple #[])/\u'=.panicking [{v:=.iface 235 (U Y c),recovered:=true}]/\w'.heap[w.heap.size+1]? =I (X #[U Y 4,U Y 0,Z V 0,.bool false] 152 (0,0))/\Zl w p (s'.ends 3 0 c) w':=by
 refine callsD_of_wpS func139 J λ c₀ cs hu=>?_;apply wpS_seq;apply wpS_region;simp [wpOpsS,go_sem,recoverD,hu,ntmps139,Exit.thenS];rw [lit20];refine wpS_of_wp ?_;have ht:=λ w=>assert_f c w;have hx:w1.cell? ⟨w.heap.size,0,O⟩=I (E (I ⟨p.mb,0,O⟩)):=Za (Qz h D) J;have HH:=Zh_ h;clear h;go_wp2_with fail;refine (Dj D 3 0 c).mono ?_;rintro e w2 ⟨he1,D2⟩;have he2:e=R9 (A9 #[U Y 4,U Y 0,Z V 0,.bool false]):=he1;subst he2;have RB:=Y8 HH.out D2;have HRB:=Zh_ RB;have g0:=Za (i:=0) RB J;have z0:=Zb (i:=0) RB;have g1:=Za (i:=1) RB J;have z1:=Zb (i:=1) RB;have g2:=Za (i:=2) RB J;have z2:=Zb (i:=2) RB;have g3:=Za (i:=3) RB J;have z3:=Zb (i:=3) RB;have HD:=Zh_ D2;clear D2 RB he1 D hx ht;go_wp2;exact ⟨J,_,J,.tuple #[],by simp [results,results139],rfl,rfl,Xa HRB.out (Z1 4),Y9 HH.out HD.out (Z1 4)⟩
end
end Go.Proofs.YtkhonmhnchdpkaaGreat
