/- A part of the proof; no condition. -/
import Derived.Test.YtkhonmhnchdpkaaGreatP00
set_option maxRecDepth 100000
set_option maxHeartbeats 40000000
namespace Go.Proofs.YtkhonmhnchdpkaaGreat
open Go.RowKit _root_.Go.Proofs.Tryz
section
theorem Fl (s:Zh) (i:Int):(i < 0/\s.acc i=30)\/(∃ k:Nat,i=k/\s.ws.length<=k/\s.acc i=30)\/(∃ k:Nat,i=k/\k < s.ws.length/\s.op=false/\s.acc i=31)\/(∃ k:Nat,i=k/\k < s.ws.length/\s.op=true/\s.acc i=0):=by
 unfold Zh.acc
 by_cases h:i < 0
 ·left;simp [h]
 ·right;obtain ⟨k,rfl⟩:=Int.eq_ofNat_of_zero_le (by omega:0<=i)
  by_cases h2:s.ws.length<=k
  ·left;exact ⟨k,rfl,h2,by rw [if_pos (by omega)]⟩
  ·right;cases ho:s.op
   ·left;exact ⟨k,rfl,by omega,rfl,by rw [if_neg (by omega)];simp⟩
   ·right;exact ⟨k,rfl,by omega,rfl,by rw [if_neg (by omega)];simp⟩
theorem Fj (s:Zh) (i:Int):(i < 0/\s.bad i=30)\/(∃ k:Nat,i=k/\s.ws.length<=k/\s.bad i=30)\/(∃ k:Nat,i=k/\k < s.ws.length/\s.bad i=0):=by
 unfold Zh.bad
 by_cases h:i < 0
 ·left;simp [h]
 ·right;obtain ⟨k,rfl⟩:=Int.eq_ofNat_of_zero_le (by omega:0<=i)
  by_cases h2:s.ws.length<=k
  ·left;exact ⟨k,rfl,h2,by rw [if_pos (by omega)]⟩
  ·right;exact ⟨k,rfl,by omega,by rw [if_neg (by omega)]⟩
end
section
theorem Vz {a b:Nat} {s:Zh} {w:World} (hM:Zi 137 w a b s) (i:Int):
  Calls Tryz.prog 138 #[.pointer (some ⟨a,0,none⟩),.int .i64 i] w λ e w'=>e=.returned (.tuple #[.int .u64 (s.got i),.int .i64 (s.acc i)])/\Zi 137 w' a b (s.load i)/\Ze [a,b] w w':=by
 have ha:=hM.lta;have hb:=hM.ltb;have hn:=hM.len;have hne:=hM.ne;obtain ⟨h0,h1,h2,f1,f2⟩:=hM.cells;rcases Fl s i with ⟨hi,hc⟩|⟨k,rfl,hk,hc⟩|⟨k,rfl,hk,ho,hc⟩|⟨k,rfl,hk,ho,hc⟩
 ·have Hc:=Zh_ hc;clear hc;go_enter func138,ntmps138;go_wp2;go_ret2;have hc:=Hc.out;exact ⟨by simp [Zh.got,hc],by simpa [Zh.load,hc] using (hM.alloc _),(Zr_ _ _).alloc _⟩
 ·have Hc:=Zh_ hc;clear hc;go_enter func138,ntmps138;go_wp2;go_ret2;have hc:=Hc.out;exact ⟨by simp [Zh.got,hc],by simpa [Zh.load,hc] using (hM.alloc _),(Zr_ _ _).alloc _⟩
 ·have Hc:=Zh_ hc;clear hc;rw [ho] at h1;have Ho:=Zh_ ho;clear ho;go_enter func138,ntmps138;go_wp2;go_ret2;have hc:=Hc.out;exact ⟨by simp [Zh.got,hc],by simpa [Zh.load,hc] using (hM.alloc _),(Zr_ _ _).alloc _⟩
 ·have Hc:=Zh_ hc;clear hc;rw [ho] at h1;have Ho:=Zh_ ho;clear ho;obtain ⟨hx,fx⟩:=hM.word hk;obtain ⟨x,hxe⟩:∃ x,x=s.ws.getD k 0:=⟨_,rfl⟩;rw [<-hxe] at hx;have Hx:=Zh_ hxe;clear hxe;go_enter func138,ntmps138;go_wp2;go_end0;go_wp2;go_ret2;have hc:=Hc.out;have hxe:=Hx.out;exact ⟨by simp [Zh.got,Zh.at,hc,hxe],by simpa [Zh.load,hc] using hM.touch.alloc _,(by repeat (first|exact Zr_ _ _|refine Ze.drew ?_|refine Ze.alloc ?_ _|refine Ze.set_l ?_ _ _|refine Ze.set_r ?_ _ _))⟩
end
end Go.Proofs.YtkhonmhnchdpkaaGreat
