/- A part of the proof; no condition. -/
import Derived.Test.YtkhonmhnchdpkaaGreatP09
import Derived.Deep.RegionWith
set_option maxRecDepth 100000
set_option maxHeartbeats 40000000
namespace Go.Proofs.YtkhonmhnchdpkaaGreat
open Go.RowKit _root_.Go.Proofs.Tryz
section
theorem new_ok (n:Nat) (h1:1<=n) (h2:n<=4096) (w:World):
  Calls Tryz.prog 40 #[.int .i64 n] w λ e w'=>e=.returned (.tuple #[.pointer (some ⟨w.heap.size+1,0,none⟩),.int .i64 0])/\Zi 137 w' (w.heap.size+1) w.heap.size (.fresh n)/\Ze [] w w':=by
 have hmk:=make_u64 n h2;go_enter func40,ntmps40;go_wp2;go_ret2;exact ⟨rfl,Zi.mk_fresh w n h2 137,((Zr_ _ _).alloc _).alloc _⟩
theorem new_i (n:Int) (h1:1<=n) (h2:n<=4096) (w:World):
  Calls Tryz.prog 40 #[.int .i64 n] w λ e w'=>e=.returned (.tuple #[.pointer (some ⟨w.heap.size+1,0,none⟩),.int .i64 0])/\Zi 137 w' (w.heap.size+1) w.heap.size (.fresh n.toNat)/\Ze [] w w':=by
 obtain ⟨k,rfl⟩:=Int.eq_ofNat_of_zero_le (by omega:0<=n);exact new_ok k (by omega) (by omega) w
theorem new_e (n:Int) (h1:1<=n) (h2:n<=4096) (w:World):
  Calls Tryz.prog 40 #[.int .i64 n] w λ e w'=>∃ a b,e=.returned (.tuple #[.pointer (some ⟨a,0,none⟩),.int .i64 0])/\Zi 137 w' a b (.fresh n.toNat)/\w.heap.size<=a/\w.heap.size<=b/\Ze [] w w':=
 (new_i n h1 h2 w).mono λ _ _ ⟨he,hM,hd⟩=>⟨_,_,he,hM,by omega,by omega,hd⟩
end
end Go.Proofs.YtkhonmhnchdpkaaGreat
