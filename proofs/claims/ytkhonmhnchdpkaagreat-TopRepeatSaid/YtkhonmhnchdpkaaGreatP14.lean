/- A part of the proof; no condition. -/
import Derived.Test.YtkhonmhnchdpkaaGreatP09
set_option maxRecDepth 100000
set_option maxHeartbeats 40000000
namespace Go.Proofs.YtkhonmhnchdpkaaGreat
open Go.RowKit _root_.Go.Proofs.Tryz
section
theorem peek_c {a b:Nat} {s:Zh} {w:World} (hM:Zi 137 w a b s) (i:Int):
  Calls Tryz.prog 32 #[.pointer (some ⟨a,0,none⟩),.int .i64 i] w λ e w'=>e=.returned (.tuple #[.int .u64 (s.peek i),.int .i64 (s.bad i)])/\Zi 137 w' a b (s)/\Ze [a,b] w w':=by
 have ha:=hM.lta;have hb:=hM.ltb;have hn:=hM.len;have hne:=hM.ne;obtain ⟨h0,h1,h2,f1,f2⟩:=hM.cells;rcases Fj s i with ⟨hi,hc⟩|⟨k,rfl,hk,hc⟩|⟨k,rfl,hk,hc⟩
 ·have Hc:=Zh_ hc;clear hc;go_enter func32,ntmps32;go_wp2;go_ret2;have hc:=Hc.out;exact ⟨by simp [Zh.peek,hc],hM,Zr_ _ _⟩
 ·have Hc:=Zh_ hc;clear hc;go_enter func32,ntmps32;go_wp2;go_ret2;have hc:=Hc.out;exact ⟨by simp [Zh.peek,hc],hM,Zr_ _ _⟩
 ·have Hc:=Zh_ hc;clear hc;obtain ⟨hx,fx⟩:=hM.word hk;obtain ⟨x,hxe⟩:∃ x,x=s.ws.getD k 0:=⟨_,rfl⟩;rw [<-hxe] at hx;have Hx:=Zh_ hxe;clear hxe;go_enter func32,ntmps32;go_wp2;go_ret2;have hc:=Hc.out;have hxe:=Hx.out;exact ⟨by simp [Zh.peek,Zh.at,hc,hxe],hM,Zr_ _ _⟩
theorem Cw {a b:Nat} {s:Zh} {w:World} (hM:Zi 137 w a b s) (i v:Int):
  Calls Tryz.prog 62 #[.pointer (some ⟨a,0,none⟩),.int .i64 i,.int .u64 v] w λ e w'=>e=.returned (.int .i64 (s.bad i))/\Zi 137 w' a b (s.poke i v)/\Ze [a,b] w w':=by
 have ha:=hM.lta;have hb:=hM.ltb;have hn:=hM.len;have hne:=hM.ne;obtain ⟨h0,h1,h2,f1,f2⟩:=hM.cells;rcases Fj s i with ⟨hi,hc⟩|⟨k,rfl,hk,hc⟩|⟨k,rfl,hk,hc⟩
 ·have Hc:=Zh_ hc;clear hc;go_enter func62,ntmps62;go_wp2;go_ret;have hc:=Hc.out;exact ⟨by simp [hc],by simpa [Zh.poke,hc] using hM,Zr_ _ _⟩
 ·have Hc:=Zh_ hc;clear hc;go_enter func62,ntmps62;go_wp2;go_ret;have hc:=Hc.out;exact ⟨by simp [hc],by simpa [Zh.poke,hc] using hM,Zr_ _ _⟩
 ·have Hc:=Zh_ hc;clear hc;obtain ⟨hx,fx⟩:=hM.word hk;obtain ⟨x,hxe⟩:∃ x,x=s.ws.getD k 0:=⟨_,rfl⟩;rw [<-hxe] at hx;have Hx:=Zh_ hxe;clear hxe;go_enter func62,ntmps62;go_wp2;go_ret;have hc:=Hc.out;have hxe:=Hx.out;exact ⟨by simp [hc],by simpa [Zh.poke,hc] using hM.put k v,(by repeat (first|exact Zr_ _ _|refine Ze.drew ?_|refine Ze.alloc ?_ _|refine Ze.set_l ?_ _ _|refine Ze.set_r ?_ _ _))⟩
end
end Go.Proofs.YtkhonmhnchdpkaaGreat
