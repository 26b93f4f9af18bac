/- A part of the proof; no condition. -/
import Derived.Test.YtkhonmhnchdpkaaGreatP12
set_option maxRecDepth 100000
set_option maxHeartbeats 40000000
namespace Go.Proofs.YtkhonmhnchdpkaaGreat
open Go.RowKit _root_.Go.Proofs.Tryz
section
theorem madd_c {a b:Nat} {s:Zh} {w:World} (hM:Zi 137 w a b s) (i v:Int):
  Calls Tryz.prog 135 #[.pointer (some ⟨a,0,none⟩),.int .i64 i,.int .u64 v] w λ e w'=>e=.returned (.tuple #[.int .u64 (s.got i),.int .i64 (s.acc i)])/\Zi 137 w' a b (s.add i v)/\Ze [a,b] w w':=by
 have ha:=hM.lta;have hb:=hM.ltb;have hn:=hM.len;have hne:=hM.ne;obtain ⟨h0,h1,h2,f1,f2⟩:=hM.cells;rcases Fl s i with ⟨hi,hc⟩|⟨k,rfl,hk,hc⟩|⟨k,rfl,hk,ho,hc⟩|⟨k,rfl,hk,ho,hc⟩
 ·have Hc:=Zh_ hc;clear hc;go_enter func135,ntmps135;go_wp2;go_ret2;have hc:=Hc.out;exact ⟨by simp [Zh.got,hc],by simpa [Zh.add,hc] using ((hM.alloc _).alloc _),((Zr_ _ _).alloc _).alloc _⟩
 ·have Hc:=Zh_ hc;clear hc;go_enter func135,ntmps135;go_wp2;go_ret2;have hc:=Hc.out;exact ⟨by simp [Zh.got,hc],by simpa [Zh.add,hc] using ((hM.alloc _).alloc _),((Zr_ _ _).alloc _).alloc _⟩
 ·have Hc:=Zh_ hc;clear hc;rw [ho] at h1;have Ho:=Zh_ ho;clear ho;go_enter func135,ntmps135;go_wp2;go_ret2;have hc:=Hc.out;exact ⟨by simp [Zh.got,hc],by simpa [Zh.add,hc] using ((hM.alloc _).alloc _),((Zr_ _ _).alloc _).alloc _⟩
 ·have Hc:=Zh_ hc;clear hc;rw [ho] at h1;have Ho:=Zh_ ho;clear ho;obtain ⟨hx,fx⟩:=hM.word hk;obtain ⟨x,hxe⟩:∃ x,x=s.ws.getD k 0:=⟨_,rfl⟩;rw [<-hxe] at hx;have Hx:=Zh_ hxe;clear hxe;go_enter func135,ntmps135;go_wp2;go_region;go_end0;go_wp2;go_ret2;have hc:=Hc.out;have hxe:=Hx.out;exact ⟨by simp [Zh.got,Zh.at,hc,hxe],by simpa [Zh.add,hc,Zh.at,hxe] using (((hM.touch.put k (IntKind.u64.wrap (x+v))).alloc _).alloc _).drew,(by repeat (first|exact Zr_ _ _|refine Ze.drew ?_|refine Ze.alloc ?_ _|refine Ze.set_l ?_ _ _|refine Ze.set_r ?_ _ _))⟩
end
section
def Zh.look (s:Zh) (i t:Int):Bool:=if s.acc i=0 then s.got i==t else false
def Zh.ahead (s:Zh) (i t:Int):Int:=
 if s.bad i=0 then if t<=s.peek i then 0 else if IntKind.u64.wrap (t - s.peek i)<=2147483647 then IntKind.u64.wrap (t - s.peek i) else 2147483647 else 0
theorem Fy (n:Int):0<=IntKind.u64.wrap n:=by
 simp only [IntKind.wrap_u64];omega
theorem draw_c {a b:Nat} {s:Zh} {w:World} (hM:Zi 137 w a b s) (p0 p1 p2 p3 p4 p5:Int):
  Calls Tryz.prog 105 #[.pointer (some ⟨a,0,none⟩),.agg #[.int .i64 p0,.int .i64 p1,.int .i64 p2,.int .i64 p3,.int .i64 p4,.int .i64 p5]] w λ e w'=>e=.returned (.tuple #[.int .u64 (s.got p0),.int .i64 (s.acc p0)])/\Zi 137 w' a b (s.add p0 1)/\Ze [a,b] w w':=by
 have ha:=hM.lta;have hb:=hM.ltb
 by_cases hacc:s.acc p0=0
 ·skip
  skip
  skip
  go_enter func105,ntmps105;go_wp2_with (first|(go_at_call 135;refine (madd_c ((hM.alloc _).alloc _) _ _).mono ?_;rintro e w1 ⟨rfl,M1,d1⟩)|go_in)
  go_ret2
  skip
  exact ⟨by simp [hacc,Zh.got],by simpa using M1,Ze.then ((by repeat (first|with_reducible exact Zr_ _ _|with_reducible assumption|with_reducible refine Ze.alloc ?_ _)):Ze [a,b] w _) d1 (by simp)⟩
 ·have hz:(s.acc p0==0)=false:=by simp [hacc]
  have hz2:(s.acc p0 !=0)=true:=by simp [hacc]
  have Hacc:=Zh_ hacc;clear hacc;go_enter func105,ntmps105;go_wp2_with (first|(go_at_call 135;refine (madd_c ((hM.alloc _).alloc _) _ _).mono ?_;rintro e w1 ⟨rfl,M1,d1⟩)|go_in)
  go_ret2;have hacc:=Hacc.out;exact ⟨by simp [hacc,Zh.got],by simpa using M1,Ze.then ((by repeat (first|with_reducible exact Zr_ _ _|with_reducible assumption|with_reducible refine Ze.alloc ?_ _)):Ze [a,b] w _) d1 (by simp)⟩
theorem look_c {a b:Nat} {s:Zh} {w:World} (hM:Zi 137 w a b s) (p0 p1 p2 p3 p4 p5 ticket:Int):
  Calls Tryz.prog 106 #[.pointer (some ⟨a,0,none⟩),.agg #[.int .i64 p0,.int .i64 p1,.int .i64 p2,.int .i64 p3,.int .i64 p4,.int .i64 p5],.int .u64 ticket] w λ e w'=>e=.returned (.tuple #[.bool (s.look p1 ticket),.int .i64 (s.acc p1)])/\Zi 137 w' a b (s.load p1)/\Ze [a,b] w w':=by
 have ha:=hM.lta;have hb:=hM.ltb
 by_cases hacc:s.acc p1=0
 ·skip
  skip
  skip
  go_enter func106,ntmps106;go_wp2_with (first|(go_at_call 138;refine (Vz (((hM.alloc _).alloc _).alloc _) _).mono ?_;rintro e w1 ⟨rfl,M1,d1⟩;have Q1:=Za (i:=0) (d1.at (heap_alloc_new ((w.alloc (.cells #[.pointer (some ⟨a,0,none⟩)] 75)).alloc (.cells #[.int .i64 p0,.int .i64 p1,.int .i64 p2,.int .i64 p3,.int .i64 p4,.int .i64 p5] 74)) (.cells #[.int .u64 ticket] 54)) (by simp;omega)) rfl;simp only [World.size_alloc] at Q1)|go_in)
  go_ret2
  skip
  exact ⟨by simp [hacc,Zh.look,Zh.got],by simpa using M1,Ze.then ((by repeat (first|with_reducible exact Zr_ _ _|with_reducible assumption|with_reducible refine Ze.alloc ?_ _)):Ze [a,b] w _) d1 (by simp)⟩
 ·have hz:(s.acc p1==0)=false:=by simp [hacc]
  have hz2:(s.acc p1 !=0)=true:=by simp [hacc]
  have Hacc:=Zh_ hacc;clear hacc;go_enter func106,ntmps106;go_wp2_with (first|(go_at_call 138;refine (Vz (((hM.alloc _).alloc _).alloc _) _).mono ?_;rintro e w1 ⟨rfl,M1,d1⟩;have Q1:=Za (i:=0) (d1.at (heap_alloc_new ((w.alloc (.cells #[.pointer (some ⟨a,0,none⟩)] 75)).alloc (.cells #[.int .i64 p0,.int .i64 p1,.int .i64 p2,.int .i64 p3,.int .i64 p4,.int .i64 p5] 74)) (.cells #[.int .u64 ticket] 54)) (by simp;omega)) rfl;simp only [World.size_alloc] at Q1)|go_in)
  go_ret2;have hacc:=Hacc.out;exact ⟨by simp [hacc,Zh.look],by simpa using M1,Ze.then ((by repeat (first|with_reducible exact Zr_ _ _|with_reducible assumption|with_reducible refine Ze.alloc ?_ _)):Ze [a,b] w _) d1 (by simp)⟩
theorem pass_c {a b:Nat} {s:Zh} {w:World} (hM:Zi 137 w a b s) (p0 p1 p2 p3 p4 p5 ticket:Int):
  Calls Tryz.prog 118 #[.pointer (some ⟨a,0,none⟩),.agg #[.int .i64 p0,.int .i64 p1,.int .i64 p2,.int .i64 p3,.int .i64 p4,.int .i64 p5],.int .u64 ticket] w λ e w'=>e=.returned (.int .i64 (s.acc p1))/\Zi 137 w' a b (s.store p1 (IntKind.u64.wrap (ticket+1)))/\Ze [a,b] w w':=by
 have ha:=hM.lta;have hb:=hM.ltb
 by_cases hacc:s.acc p1=0
 ·skip
  skip
  skip
  go_enter func118,ntmps118;go_wp2_with (first|(go_at_call 148;refine (Qx (((hM.alloc _).alloc _).alloc _) _ _).mono ?_;rintro e w1 ⟨rfl,M1,d1⟩)|go_in)
  go_ret
  skip
  exact ⟨by simp [hacc],by simpa using M1,Ze.then ((by repeat (first|with_reducible exact Zr_ _ _|with_reducible assumption|with_reducible refine Ze.alloc ?_ _)):Ze [a,b] w _) d1 (by simp)⟩
 ·have hz:(s.acc p1==0)=false:=by simp [hacc]
  have hz2:(s.acc p1 !=0)=true:=by simp [hacc]
  have Hacc:=Zh_ hacc;clear hacc;go_enter func118,ntmps118;go_wp2_with (first|(go_at_call 148;refine (Qx (((hM.alloc _).alloc _).alloc _) _ _).mono ?_;rintro e w1 ⟨rfl,M1,d1⟩)|go_in)
  go_ret;have hacc:=Hacc.out;exact ⟨by simp,by simpa using M1,Ze.then ((by repeat (first|with_reducible exact Zr_ _ _|with_reducible assumption|with_reducible refine Ze.alloc ?_ _)):Ze [a,b] w _) d1 (by simp)⟩
end
end Go.Proofs.YtkhonmhnchdpkaaGreat
