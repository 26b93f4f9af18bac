/- A part of the proof; no condition. -/
import Derived.Test.YtkhonmhnchdpkaaGreatP01
import Derived.Laws.Externs
import Derived.Laws.Cover2
import Derived.Maps.AppendAt
import Derived.RegionTactic
import Derived.ChangeAlike
import Derived.Maps.OwnSet
set_option maxRecDepth 100000
set_option maxHeartbeats 40000000
namespace Go.Proofs.YtkhonmhnchdpkaaGreat
open Go.RowKit _root_.Go.Proofs.Tryz
section
theorem ex127:Extern.find Tryz.f53=some Extern.MathFloatBits.float64frombits:=by kernel_rfl
theorem ex130:Extern.find Tryz.f15=some Extern.MathFloatBits.float64bits:=by kernel_rfl
theorem Nr (n:Int) (w:World):(callFunc 53 #[.int .u64 n]).run Tryz.prog w=.ok (.value (.float .f64 n.toNat)) w:=by
 rw [run_callFunc_extern func53 (by kernel_rfl) (by kernel_rfl) (by kernel_rfl) ex127];rfl
theorem Nq (b:Nat) (w:World):(callFunc 15 #[.float .f64 b]).run Tryz.prog w=.ok (.value (.int .u64 (b:Int))) w:=by
 rw [run_callFunc_extern func15 (by kernel_rfl) (by kernel_rfl) (by kernel_rfl) ex130];rfl
theorem Zj (P:Program) (w:World) (a:Addr) (m:Mode) (k:FloatKind) (b:Nat):(store a (.float k b) m).run P w=stored P w a (.float k b) m:=run_store P w a _ m rfl
def Fb (x:Nat):Bool:=FloatKind.f64.format.order x x !=some .eq
def Zt (x:Nat):Nat:=if Fb x=true then 9221120237041090560 else x
theorem Jc (x:Nat):Zt (Zt x)=Zt x:=by
 have h:Fb 9221120237041090560=true:=by decide+kernel
 unfold Zt
 by_cases hx:Fb x=true
 ·rw [if_pos hx,if_pos h]
 ·rw [if_neg hx,if_neg hx]
theorem Yp (x:Nat) (w:World):Calls Tryz.prog 73 #[.float .f64 x] w λ e w'=>e=.returned (.float .f64 (Zt x))/\w'=w:=by
 have h1:=Nr 9221120237041090560 w;rw [show (9221120237041090560:Int).toNat=9221120237041090560 from rfl] at h1
 by_cases h:Fb x=true
 ·have hx:Zt x=9221120237041090560:=if_pos h;have hn:(FloatKind.f64.format.order x x !=some .eq)=true:=h;rw [hx];clear hx h;go_enter func73,ntmps73;go_wp2;go_ret;exact ⟨rfl,rfl⟩
 ·have hx:Zt x=x:=if_neg h;have hn:(FloatKind.f64.format.order x x !=some .eq)=false:=by simpa [Fb] using h
  rw [hx];clear hx h;go_enter func73,ntmps73;go_wp2;go_ret;exact ⟨rfl,rfl⟩
theorem Gm (x:Nat) (w:World):Calls Tryz.prog 63 #[.float .f64 x] w λ e w'=>e=.returned (.int .u64 (Zt x:Int))/\w'=w:=by
 have h1:=Nq (Zt x);go_enter func63,ntmps63;go_wp2_with fail;refine (Yp x _).mono ?_;rintro e w1 ⟨rfl,hw1⟩;have hw1':=hw1.symm;subst hw1';go_wp2;go_ret;exact ⟨rfl,rfl⟩
theorem of_c (n:Int) (w:World):Calls Tryz.prog 60 #[.int .u64 n] w λ e w'=>e=.returned (.float .f64 (Zt n.toNat))/\w'=w:=by
 have h1:=Nr n;go_enter func60,ntmps60;go_wp2_with fail;refine (Yp n.toNat _).mono ?_;rintro e w1 ⟨rfl,hw1⟩;have hw1':=hw1.symm;subst hw1';go_wp2;go_ret;exact ⟨rfl,rfl⟩
end
section
attribute [local go_sem] Zj
variable {w w':World} {sb:Nat} {v v':Value}
def Us (w:World) (u u':Value):Prop:=u'.ownBlock=u.ownBlock\/∃ g,u'.ownBlock=some g/\w.heap.size<=g
theorem Us.refl:Us w v v:=.inl rfl
theorem own_ty {t:TypeId} {n:Nat} {xs:List Value} (h:w.ownsRow 0 t 1 v n xs) {g:Nat} (hg:v.ownBlock=some g):∃ cur,w.heap[g]? =some (.cells cur t (0,0)):=by
 rcases h.2 with ⟨rfl,_⟩|⟨g',cap,cur,rfl,_,hgg,_⟩
 ·simp [Value.ownBlock] at hg
 ·simp [Value.ownBlock] at hg;subst hg;exact ⟨cur,hgg⟩
theorem V5 {t:TypeId} {n:Nat} {xs:List Value} {S:List Nat} (h:w.ownsRow 0 t 1 v n xs) (m:Ze S w w') (hu:∀ g,v.ownBlock=some g->g∉S):w'.ownsRow 0 t 1 v n xs:=by
 refine ⟨h.1,?_⟩;rcases h.2 with hn|⟨g,cap,cur,rfl,hb,hgg,rest⟩
 ·exact .inl hn
 ·exact .inr ⟨g,cap,cur,rfl,hb,m.at hgg (hu g rfl),rest⟩
theorem Bz {t:TypeId} {n:Nat} {xs:List Value} (h:w.ownsRow 0 t 1 v n xs) (k:Nat):(w.drewN k).ownsRow 0 t 1 v n xs:=h
theorem Ki {t:TypeId} {n:Nat} {xs:List Value} (h:w.ownsRow 0 t 1 v n xs) {g:Nat} (hg:v.ownBlock=some g) {i:Nat} {u:Value} (hi:xs[i]? =some u):w.cell? ⟨g,i,none⟩=some u:=by
 have:=h.cells hg i u hi
 rwa [show ((⟨g,0,none⟩:Addr).add i)=⟨g,i,none⟩ by unfold Addr.add;split <;> simp_all] at this
theorem Mw {t:TypeId} {g n cap m:Nat} {xs:List Value} (h:w.ownsRow 0 t 1 (.slice (some ⟨g,0,none⟩) n cap) n xs) (hm:m<=n):w.ownsRow 0 t 1 (.slice (some ⟨g,0,none⟩) m cap) m (xs.take m):=by
 rcases h with ⟨hl,⟨hv,_⟩|⟨g',cap',cur,hv,hb,hgg,h1,h2,h3,h4⟩⟩
 ·simp at hv
 ·simp at hv;obtain ⟨rfl,rfl⟩:=hv;refine ⟨by simp;omega,.inr ⟨g,cap,cur,rfl,hb,hgg,by omega,h2,h3,?_⟩⟩;rw [<-h4,List.take_take];congr 1
  omega
variable {room:Int} {xsF:List Nat}
def V8 (w:World) (sb:Nat) (v:Value) (room:Int) (xs:List Nat):Prop:=
 w.heap[sb]? =some (.cells #[v,.int .i64 room] 202 (0,0))/\w.ownsRow 0 51 1 v xs.length (xs.map (Value.float .f64))
theorem V8.drewN (h:V8 w sb v room xsF) (n:Nat):V8 (w.drewN n) sb v room xsF:=⟨h.1,Bz h.2 n⟩
theorem V8.mod {S:List Nat} (h:V8 w sb v room xsF) (m:Ze S w w') (hs:sb∉S) (hu:∀ g,v.ownBlock=some g->g∉S):V8 w' sb v room xsF:=⟨m.at h.1 hs,V5 h.2 m hu⟩
theorem V8.ne (h:V8 w sb v room xsF) {g:Nat} (hg:v.ownBlock=some g):g≠sb:=by
 obtain ⟨cur,hc⟩:=own_ty h.2 hg;rintro rfl;rw [h.1] at hc;simp at hc
theorem V8.form (h:V8 w sb v room xsF):∃ a cap,v=.slice a xsF.length cap:=Zo h.2
theorem Ui:(Tryz.prog.info? 51).map (λ i=>(i.zero,i.size,i.bytes))=some (some (.float .f64 0),1,8):=by kernel_rfl
theorem stk_newF (n:Int) (h0:0<=n) (h1:n<=65536) (w:World):Calls Tryz.prog 86 #[.int .i64 n] w λ e w'=>∃ sb,e=.returned (.pointer (some ⟨sb,0,none⟩))/\V8 w' sb (.slice none 0 0) n []/\w.heap.size<=sb/\Ze [] w w':=by
 go_enter func86,ntmps86;go_wp2;go_ret;exact ⟨_,rfl,⟨heap_alloc_new w (.cells #[.slice none 0 0,.int .i64 n] 202),World.ownsRow_nil _ _ _ _⟩,Nat.le_refl _,(Zr_ _ _).alloc _⟩
theorem stk_lenF (h:V8 w sb v room xsF):Calls Tryz.prog 159 #[.pointer (some ⟨sb,0,none⟩)] w λ e w'=>e=.returned (.int .i64 xsF.length)/\w'=w:=by
 obtain ⟨a,cap,rfl⟩:=h.form;have r0:w.cell? ⟨sb,0,none⟩=some (.slice a xsF.length cap):=Za h.1 rfl;go_enter func159,ntmps159;go_wp2;go_ret;exact ⟨rfl,rfl⟩
theorem S7 (h:V8 w sb v room xsF) (hl:(xsF.length:Int) < room) (hr:room<=65536) (x:Nat):Calls Tryz.prog 168 #[.pointer (some ⟨sb,0,none⟩),Value.float .f64 x] w λ e w'=>
  e=.returned (.int .i64 0)/\∃ v',V8 w' sb v' room (xsF++[x])/\Us w v v'/\Ze (sb :: v.ownBlock.toList) w w':=by
 obtain ⟨a,cap,rfl⟩:=h.form;have r0:w.cell? ⟨sb,0,none⟩=some (.slice a xsF.length cap):=Za h.1 rfl;have r1:w.cell? ⟨sb,1,none⟩=some (.int .i64 room):=Za h.1 rfl;have hb:((xsF.length:Int)==room)=false:=by simp;omega
 have hsl:=lt_of_block h.1;go_enter func168,ntmps168;go_wp2_with fail;go_quiet (fail);have h1:=h.drewN nq;have D1:Ze (sb :: (Value.slice a xsF.length cap).ownBlock.toList) w (w.drewN nq):=(Zr_ _ _).drewN nq;have z1:Hid (w.heap.size<=(w.drewN nq).heap.size):=Zh_ (Nat.le_refl _);clear r0 r1 h;generalize w.drewN nq=w1 at *
 have r0:w1.cell? ⟨sb,0,none⟩=some (.slice a xsF.length cap):=Za h1.1 rfl;obtain ⟨i0,hi0,hz0,hz1,hz2⟩:=info_parts Ui;go_wp2_with (at_builtin;refine wpList_append_own_at _ rfl _ _ 24 rfl 0 51 i0 (.float .f64 0) 1 8 underlying24 hi0 hz0 hz1 hz2 rfl (by decide) _ _ _ rfl (h1.2.alloc _) ⟨w1.heap.size,0,none⟩ 1 1 [Value.float .f64 x] rfl rfl ?CA ?CB ?CC ?CD ?CE ?_)
 case CA=>exact cell_one_new _ _ _
 case CB=>intro u hu;simp at hu;subst hu;rfl
 case CC=>unfold maxLen;omega
 case CD=>omega
 case CE=>exact Nat.zero_le _
 intro u' w5 ho5 hg5 _ hat;obtain ⟨g5,cap5,rfl,-⟩:=Yd ho5 (by omega);have hne:∀ g,(Value.slice a xsF.length cap).ownBlock=some g->g≠sb:=λ g hg=>h1.ne hg;have hs1:=lt_of_block h1.1;have K5:w5.heap[sb]? =some (.cells #[.slice a xsF.length cap,.int .i64 room] 202 (0,0)):=(hg5.block sb (by simp;omega) (λ e=>hne sb e.symm rfl)).trans (Zf _ h1.1);have D5:Ze (sb :: (Value.slice a xsF.length cap).ownBlock.toList) w w5:=(D1.alloc _).grown hg5 (λ g hg=>.inl (by simp [hg]));have hg5':g5≠sb:=by
  rcases hat with e|e
  ·exact hne g5 e.symm
  ·simp [Value.ownBlock] at e;omega
 have hon:Us w (.slice a xsF.length cap) (.slice (some ⟨g5,0,none⟩) (xsF.length+1) cap5):=by
  rcases hat with e|e
  ·exact .inl e
  ·exact .inr ⟨_,e,by have:=z1.out;first|omega|(rw [World.size_alloc];omega)⟩
 have ho5':w5.ownsRow 0 51 1 (.slice (some ⟨g5,0,none⟩) (xsF.length+1) cap5) (xsF++[x]).length ((xsF++[x]).map (Value.float .f64)):=by simpa using ho5
 have HON:=Zh_ hon;have HG:=Zh_ hg5';have z8:=Zb (i:=0) K5;have r8:w5.cell? ⟨sb,0,none⟩=some (.slice a xsF.length cap):=Za K5 rfl;clear hne hat hon hg5 ho5 h1 D1 r0 hg5';go_wp2_with fail;go_ret;refine ⟨rfl,_,⟨Zd (i:=0) _ K5,V5 ho5' ((Zr_ [sb] _).setCell ⟨sb,0,none⟩ _ (.inl (by simp))) (λ g hg=>?_)⟩,HON.out,D5.setCell _ _ (.inl (by simp))⟩;simp [Value.ownBlock] at hg;subst hg;simp [HG.out]
theorem Vf (h:V8 w sb v room xsF) (n:Nat) (hn:n < xsF.length) (hb:xsF.length<=65536):Calls Tryz.prog 175 #[.pointer (some ⟨sb,0,none⟩),.int .i64 n] w λ e w'=>e=.returned (.tuple #[Value.float .f64 (xsF.getD (xsF.length - 1 - n) 0),.int .i64 0])/\∃ k,w'=w.drewN k:=by
 obtain ⟨g,cap,rfl,-⟩:=Yd h.2 (by omega);have r0:w.cell? ⟨sb,0,none⟩=some (.slice (some ⟨g,0,none⟩) xsF.length cap):=Za h.1 rfl;obtain ⟨i,hi⟩:∃ i,i=xsF.length - 1 - n:=⟨_,rfl⟩;rw [<-hi];have gi:w.cell? ⟨g,i,none⟩=some (Value.float .f64 (xsF.getD i 0)):=Ki h.2 rfl (by simp [show i < xsF.length by omega]);obtain ⟨y,hy⟩:∃ y,y=xsF.getD i 0:=⟨_,rfl⟩;rw [<-hy] at gi ⊢
 have hii:(xsF.length:Int) - 1 - (n:Int)=(i:Int):=by omega
 have hil:i < xsF.length:=by omega
 have hw1:IntKind.i64.wrap ((xsF.length:Int) - 1)=(xsF.length:Int) - 1:=IntWalk.i64_in _ (by omega);have hw2:IntKind.i64.wrap ((xsF.length:Int) - 1 - (n:Int))=(i:Int):=by rw [hii];exact IntWalk.i64_in _ (by omega)
 have b1:(0:Int)<=(i:Int):=by omega
 have b2:(i:Int) < (xsF.length:Int):=by omega
 have hd:decide ((xsF.length:Int)<=(n:Int))=false:=decide_eq_false (by omega);have hd0:decide ((n:Int) < 0)=false:=decide_eq_false (by omega);clear h hy hi;go_enter func175,ntmps175;go_wp2_with fail;go_quiet (fail);go_wp2;go_ret2;exact ⟨rfl,_,rfl⟩
theorem Mh {x:Nat} (h:V8 w sb v room (xsF++[x])) (hb:xsF.length<=65535):Calls Tryz.prog 177 #[.pointer (some ⟨sb,0,none⟩)] w λ e w'=>
  e=.returned (.tuple #[Value.float .f64 x,.int .i64 0])/\∃ v',V8 w' sb v' room xsF/\v'.ownBlock=v.ownBlock/\Ze [sb] w w':=by
 have hx:(xsF++[x]).getD ((xsF++[x]).length - 1 - 0) 0=x:=by simp
 have HX:=Zh_ hx;clear hx;go_enter func177,ntmps177;go_wp2_with fail;refine (Vf h 0 (by simp) (by simp;omega)).mono ?_;rintro e w1 ⟨rfl,k,rfl⟩;rw [HX.out];have h1:=h.drewN k;have D1:Ze [sb] w (w.drewN k):=(Zr_ _ _).drewN k;clear h;generalize w.drewN k=w1 at *
 obtain ⟨g,cap,rfl,-⟩:=Yd h1.2 (by simp);have hlen:(xsF++[x]).length=xsF.length+1:=by simp
 have ho:=h1.2;have hK:=h1.1;have hgs:=h1.ne (g:=g) rfl;rw [hlen] at ho hK;obtain ⟨n,hn⟩:∃ n,n=xsF.length:=⟨_,rfl⟩;rw [<-hn] at ho hK hb;have r0:w1.cell? ⟨sb,0,none⟩=some (.slice (some ⟨g,0,none⟩) (n+1:Nat) cap):=Za hK rfl;have z0:=Zb (i:=0) hK;have hcap:n+1<=cap/\cap<=maxLen:=by
  rcases ho.2 with ⟨hv,_⟩|⟨g',cap',cur,hv,_,_,h1,h2,_⟩
  ·simp at hv
  ·simp at hv;obtain ⟨_,rfl⟩:=hv;exact ⟨h1,h2⟩
 obtain ⟨hc1,hc2⟩:=hcap;unfold maxLen at hc2;have hw1:IntKind.i64.wrap (((n+1:Nat):Int) - 1)=(n:Int):=by rw [show ((n+1:Nat):Int) - 1=n by omega];exact IntWalk.i64_in _ (by omega)
 have b1:(0:Int)<=(n:Int):=by omega
 have b2:(n:Int)<=(cap:Int):=by omega
 have HN:=Zh_ hn;have HO:=Zh_ ho;have HK:=Zh_ hK;clear h1 hlen hn ho hK;go_wp2_with fail;go_region
 all_goals
  go_wp2;go_ret2;have ht:=Mw HO.out (m:=n) (by omega);have he:((xsF++[x]).map (Value.float .f64)).take n=xsF.map (Value.float .f64):=by rw [HN.out];simp
  rw [he] at ht;refine ⟨rfl,_,⟨Zd (i:=0) _ HK.out,?_⟩,rfl,(D1.setCell _ _ (.inl (by simp))).drew⟩;rw [<-HN.out];exact V5 ht (((Zr_ [sb] w1).setCell ⟨sb,0,none⟩ _ (.inl (by simp))).drew) (λ q hq=>by simp [Value.ownBlock] at hq;subst hq;simp [hgs])
variable {room:Int} {xsI:List Int}
def V7 (w:World) (sb:Nat) (v:Value) (room:Int) (xs:List Int):Prop:=
 w.heap[sb]? =some (.cells #[v,.int .i64 room] 204 (0,0))/\w.ownsRow 0 3 1 v xs.length (xs.map (Value.int .i64))
theorem V7.drewN (h:V7 w sb v room xsI) (n:Nat):V7 (w.drewN n) sb v room xsI:=⟨h.1,Bz h.2 n⟩
theorem V7.mod {S:List Nat} (h:V7 w sb v room xsI) (m:Ze S w w') (hs:sb∉S) (hu:∀ g,v.ownBlock=some g->g∉S):V7 w' sb v room xsI:=⟨m.at h.1 hs,V5 h.2 m hu⟩
theorem V7.ne (h:V7 w sb v room xsI) {g:Nat} (hg:v.ownBlock=some g):g≠sb:=by
 obtain ⟨cur,hc⟩:=own_ty h.2 hg;rintro rfl;rw [h.1] at hc;simp at hc
theorem V7.form (h:V7 w sb v room xsI):∃ a cap,v=.slice a xsI.length cap:=Zo h.2
theorem stk_newI (n:Int) (h0:0<=n) (h1:n<=65536) (w:World):Calls Tryz.prog 87 #[.int .i64 n] w λ e w'=>∃ sb,e=.returned (.pointer (some ⟨sb,0,none⟩))/\V7 w' sb (.slice none 0 0) n []/\w.heap.size<=sb/\Ze [] w w':=by
 go_enter func87,ntmps87;go_wp2;go_ret;exact ⟨_,rfl,⟨heap_alloc_new w (.cells #[.slice none 0 0,.int .i64 n] 204),World.ownsRow_nil _ _ _ _⟩,Nat.le_refl _,(Zr_ _ _).alloc _⟩
theorem stk_lenI (h:V7 w sb v room xsI):Calls Tryz.prog 160 #[.pointer (some ⟨sb,0,none⟩)] w λ e w'=>e=.returned (.int .i64 xsI.length)/\w'=w:=by
 obtain ⟨a,cap,rfl⟩:=h.form;have r0:w.cell? ⟨sb,0,none⟩=some (.slice a xsI.length cap):=Za h.1 rfl;go_enter func160,ntmps160;go_wp2;go_ret;exact ⟨rfl,rfl⟩
theorem S6 (h:V7 w sb v room xsI) (hl:(xsI.length:Int) < room) (hr:room<=65536) (x:Int):Calls Tryz.prog 165 #[.pointer (some ⟨sb,0,none⟩),Value.int .i64 x] w λ e w'=>
  e=.returned (.int .i64 0)/\∃ v',V7 w' sb v' room (xsI++[x])/\Us w v v'/\Ze (sb :: v.ownBlock.toList) w w':=by
 obtain ⟨a,cap,rfl⟩:=h.form;have r0:w.cell? ⟨sb,0,none⟩=some (.slice a xsI.length cap):=Za h.1 rfl;have r1:w.cell? ⟨sb,1,none⟩=some (.int .i64 room):=Za h.1 rfl;have hb:((xsI.length:Int)==room)=false:=by simp;omega
 have hsl:=lt_of_block h.1;go_enter func165,ntmps165;go_wp2_with fail;go_quiet (fail);have h1:=h.drewN nq;have D1:Ze (sb :: (Value.slice a xsI.length cap).ownBlock.toList) w (w.drewN nq):=(Zr_ _ _).drewN nq;have z1:Hid (w.heap.size<=(w.drewN nq).heap.size):=Zh_ (Nat.le_refl _);clear r0 r1 h;generalize w.drewN nq=w1 at *
 have r0:w1.cell? ⟨sb,0,none⟩=some (.slice a xsI.length cap):=Za h1.1 rfl;obtain ⟨i0,hi0,hz0,hz1,hz2⟩:=info_parts info3;go_wp2_with (at_builtin;refine wpList_append_own_at _ rfl _ _ 34 rfl 0 3 i0 (.int .i64 0) 1 8 underlying34 hi0 hz0 hz1 hz2 rfl (by decide) _ _ _ rfl (h1.2.alloc _) ⟨w1.heap.size,0,none⟩ 1 1 [Value.int .i64 x] rfl rfl ?CA ?CB ?CC ?CD ?CE ?_)
 case CA=>exact cell_one_new _ _ _
 case CB=>intro u hu;simp at hu;subst hu;rfl
 case CC=>unfold maxLen;omega
 case CD=>omega
 case CE=>exact Nat.zero_le _
 intro u' w5 ho5 hg5 _ hat;obtain ⟨g5,cap5,rfl,-⟩:=Yd ho5 (by omega);have hne:∀ g,(Value.slice a xsI.length cap).ownBlock=some g->g≠sb:=λ g hg=>h1.ne hg;have hs1:=lt_of_block h1.1;have K5:w5.heap[sb]? =some (.cells #[.slice a xsI.length cap,.int .i64 room] 204 (0,0)):=(hg5.block sb (by simp;omega) (λ e=>hne sb e.symm rfl)).trans (Zf _ h1.1);have D5:Ze (sb :: (Value.slice a xsI.length cap).ownBlock.toList) w w5:=(D1.alloc _).grown hg5 (λ g hg=>.inl (by simp [hg]));have hg5':g5≠sb:=by
  rcases hat with e|e
  ·exact hne g5 e.symm
  ·simp [Value.ownBlock] at e;omega
 have hon:Us w (.slice a xsI.length cap) (.slice (some ⟨g5,0,none⟩) (xsI.length+1) cap5):=by
  rcases hat with e|e
  ·exact .inl e
  ·exact .inr ⟨_,e,by have:=z1.out;first|omega|(rw [World.size_alloc];omega)⟩
 have ho5':w5.ownsRow 0 3 1 (.slice (some ⟨g5,0,none⟩) (xsI.length+1) cap5) (xsI++[x]).length ((xsI++[x]).map (Value.int .i64)):=by simpa using ho5
 have HON:=Zh_ hon;have HG:=Zh_ hg5';have z8:=Zb (i:=0) K5;have r8:w5.cell? ⟨sb,0,none⟩=some (.slice a xsI.length cap):=Za K5 rfl;clear hne hat hon hg5 ho5 h1 D1 r0 hg5';go_wp2_with fail;go_ret;refine ⟨rfl,_,⟨Zd (i:=0) _ K5,V5 ho5' ((Zr_ [sb] _).setCell ⟨sb,0,none⟩ _ (.inl (by simp))) (λ g hg=>?_)⟩,HON.out,D5.setCell _ _ (.inl (by simp))⟩;simp [Value.ownBlock] at hg;subst hg;simp [HG.out]
theorem stk_badI (h:V7 w sb v room xsI) (n:Int) (hn:n < 0\/(xsI.length:Int)<=n):Calls Tryz.prog 178 #[.pointer (some ⟨sb,0,none⟩),.int .i64 n] w λ e w'=>e=.returned (.tuple #[Value.int .i64 0,.int .i64 41])/\w'=w:=by
 obtain ⟨a,cap,rfl⟩:=h.form;have r0:w.cell? ⟨sb,0,none⟩=some (.slice a xsI.length cap):=Za h.1 rfl;clear h
 by_cases h0:n < 0
 ·go_enter func178,ntmps178;go_wp2;go_ret2;exact ⟨rfl,rfl⟩
 ·have h1:(xsI.length:Int)<=n:=by omega
  have hd:decide ((xsI.length:Int)<=n)=true:=decide_eq_true h1;have hd0:decide (n < 0)=false:=decide_eq_false h0;go_enter func178,ntmps178;go_wp2;go_ret2;exact ⟨rfl,rfl⟩
theorem Aa (h:V7 w sb v room xsI) (n:Nat) (hn:n < xsI.length) (hb:xsI.length<=65536):Calls Tryz.prog 178 #[.pointer (some ⟨sb,0,none⟩),.int .i64 n] w λ e w'=>e=.returned (.tuple #[Value.int .i64 (xsI.getD (xsI.length - 1 - n) 0),.int .i64 0])/\∃ k,w'=w.drewN k:=by
 obtain ⟨g,cap,rfl,-⟩:=Yd h.2 (by omega);have r0:w.cell? ⟨sb,0,none⟩=some (.slice (some ⟨g,0,none⟩) xsI.length cap):=Za h.1 rfl;obtain ⟨i,hi⟩:∃ i,i=xsI.length - 1 - n:=⟨_,rfl⟩;rw [<-hi];have gi:w.cell? ⟨g,i,none⟩=some (Value.int .i64 (xsI.getD i 0)):=Ki h.2 rfl (by simp [show i < xsI.length by omega]);obtain ⟨y,hy⟩:∃ y,y=xsI.getD i 0:=⟨_,rfl⟩;rw [<-hy] at gi ⊢
 have hii:(xsI.length:Int) - 1 - (n:Int)=(i:Int):=by omega
 have hil:i < xsI.length:=by omega
 have hw1:IntKind.i64.wrap ((xsI.length:Int) - 1)=(xsI.length:Int) - 1:=IntWalk.i64_in _ (by omega);have hw2:IntKind.i64.wrap ((xsI.length:Int) - 1 - (n:Int))=(i:Int):=by rw [hii];exact IntWalk.i64_in _ (by omega)
 have b1:(0:Int)<=(i:Int):=by omega
 have b2:(i:Int) < (xsI.length:Int):=by omega
 have hd:decide ((xsI.length:Int)<=(n:Int))=false:=decide_eq_false (by omega);have hd0:decide ((n:Int) < 0)=false:=decide_eq_false (by omega);clear h hy hi;go_enter func178,ntmps178;go_wp2_with fail;go_quiet (fail);go_wp2;go_ret2;exact ⟨rfl,_,rfl⟩
theorem S9 (h:V7 w sb v room []):Calls Tryz.prog 166 #[.pointer (some ⟨sb,0,none⟩)] w λ e w'=>e=.returned (.tuple #[Value.int .i64 0,.int .i64 41])/\w'=w:=by
 go_enter func166,ntmps166;go_wp2_with fail;refine (stk_badI h 0 (.inr (by simp))).mono ?_;rintro e w1 ⟨rfl,hw1⟩;have hw1':=hw1.symm;subst hw1';go_wp2;go_ret2;exact ⟨rfl,rfl⟩
theorem stk_popI {x:Int} (h:V7 w sb v room (xsI++[x])) (hb:xsI.length<=65535):Calls Tryz.prog 166 #[.pointer (some ⟨sb,0,none⟩)] w λ e w'=>
  e=.returned (.tuple #[Value.int .i64 x,.int .i64 0])/\∃ v',V7 w' sb v' room xsI/\v'.ownBlock=v.ownBlock/\Ze [sb] w w':=by
 have hx:(xsI++[x]).getD ((xsI++[x]).length - 1 - 0) 0=x:=by simp
 have HX:=Zh_ hx;clear hx;go_enter func166,ntmps166;go_wp2_with fail;refine (Aa h 0 (by simp) (by simp;omega)).mono ?_;rintro e w1 ⟨rfl,k,rfl⟩;rw [HX.out];have h1:=h.drewN k;have D1:Ze [sb] w (w.drewN k):=(Zr_ _ _).drewN k;clear h;generalize w.drewN k=w1 at *
 obtain ⟨g,cap,rfl,-⟩:=Yd h1.2 (by simp);have hlen:(xsI++[x]).length=xsI.length+1:=by simp
 have ho:=h1.2;have hK:=h1.1;have hgs:=h1.ne (g:=g) rfl;rw [hlen] at ho hK;obtain ⟨n,hn⟩:∃ n,n=xsI.length:=⟨_,rfl⟩;rw [<-hn] at ho hK hb;have r0:w1.cell? ⟨sb,0,none⟩=some (.slice (some ⟨g,0,none⟩) (n+1:Nat) cap):=Za hK rfl;have z0:=Zb (i:=0) hK;have hcap:n+1<=cap/\cap<=maxLen:=by
  rcases ho.2 with ⟨hv,_⟩|⟨g',cap',cur,hv,_,_,h1,h2,_⟩
  ·simp at hv
  ·simp at hv;obtain ⟨_,rfl⟩:=hv;exact ⟨h1,h2⟩
 obtain ⟨hc1,hc2⟩:=hcap;unfold maxLen at hc2;have hw1:IntKind.i64.wrap (((n+1:Nat):Int) - 1)=(n:Int):=by rw [show ((n+1:Nat):Int) - 1=n by omega];exact IntWalk.i64_in _ (by omega)
 have b1:(0:Int)<=(n:Int):=by omega
 have b2:(n:Int)<=(cap:Int):=by omega
 have HN:=Zh_ hn;have HO:=Zh_ ho;have HK:=Zh_ hK;clear h1 hlen hn ho hK;go_wp2_with fail;go_region
 all_goals
  go_wp2;go_ret2;have ht:=Mw HO.out (m:=n) (by omega);have he:((xsI++[x]).map (Value.int .i64)).take n=xsI.map (Value.int .i64):=by rw [HN.out];simp
  rw [he] at ht;refine ⟨rfl,_,⟨Zd (i:=0) _ HK.out,?_⟩,rfl,(D1.setCell _ _ (.inl (by simp))).drew⟩;rw [<-HN.out];exact V5 ht (((Zr_ [sb] w1).setCell ⟨sb,0,none⟩ _ (.inl (by simp))).drew) (λ q hq=>by simp [Value.ownBlock] at hq;subst hq;simp [hgs])
end
section
attribute [local go_sem] Zj
def hold (v:Value):Option (DataW Value×List MemPlace):=some (.held v,[])
def J1 {α:Type} (f:Int->Option α) (k:Int) (v:α):Int->Option α:=λ i=>if i=k then some v else f i
def Qt (w:World) (b n:Nat) (f:Int->Option Value):Prop:=
 ∃ D:DataW Value,w.ownsMap Tryz.prog 3 hold b n D/\Maps.IsMap D/\∀ k,(Lit.int .i64 k).wf=true->Maps.has D (.int .i64 k)=(f k).isSome/\∀ z,D.atKey (.int .i64 k) (.held z)=.held ((f k).getD z)
variable {w w':World} {b n:Nat} {f:Int->Option Value}
theorem Qt.lt (h:Qt w b n f):b < w.heap.size:=by obtain ⟨D,h1,_⟩:=h;exact h1.lt
theorem Qt.mod {S:List Nat} (h:Qt w b n f) (m:Ze S w w') (hb:b∉S):Qt w' b n f:=by
 obtain ⟨D,⟨es,cl,h1,h2⟩,h3⟩:=h;exact ⟨D,⟨es,cl,m.at h1 hb,h2⟩,h3⟩
theorem Qt.drewN (h:Qt w b n f) (k:Nat):Qt (w.drewN k) b n f:=h
theorem Qt.alloc (h:Qt w b n f) (o:Obj):Qt (w.alloc o) b n f:=h.mod ((Zr_ [] _).alloc o) (by simp)
theorem Qt.mono (h:Qt w b n f) {n':Nat} (hn:n<=n'):Qt w b n' f:=by
 obtain ⟨D,h1,h3⟩:=h;exact ⟨D,h1.mono hn,h3⟩
theorem Qt.made (w:World):Qt (w.alloc (.map #[] 0)) w.heap.size 0 (λ _=>none):=
 ⟨.map [],World.ownsMap_made _ _ _ _,Maps.isMap_empty,λ _ _=>⟨rfl,λ _=>rfl⟩⟩
theorem Pp:Maps.Keyed Tryz.prog 3:=Maps.int_keyed underlying3
theorem key3 {k:Int} (h:(Lit.int .i64 k).wf=true):keyOf Tryz.prog 3 (.int .i64 k)=some (.int .i64 k):=Maps.keyOf_int_mk underlying3 h
theorem Qt.look (h:Qt w b n f) {t e:TypeId} (ht:Tryz.prog.underlying t=some (.map 3 e)) {z:Value} (hz:∀ w,(zeroValue e).run Tryz.prog w=.ok z w) {k:Int} (hk:(Lit.int .i64 k).wf=true):
  (Instr.lookup t (.map (some b)) (.int .i64 k) true).run Tryz.prog w=.ok (.tuple #[(f k).getD z,.bool (f k).isSome]) w:=by
 obtain ⟨D,h1,_,h2⟩:=h;obtain ⟨v,ps,hr,hv⟩:=h1.look_ok Pp ht (hz w) rfl (key3 hk);obtain ⟨a1,a2⟩:=h2 k hk;rw [a2] at hv;simp [hold] at hv;rw [hr,a1,hv.1]
theorem Qt.get (h:Qt w b n f) {t e:TypeId} (ht:Tryz.prog.underlying t=some (.map 3 e)) {z:Value} (hz:∀ w,(zeroValue e).run Tryz.prog w=.ok z w) {k:Int} (hk:(Lit.int .i64 k).wf=true):
  (Instr.lookup t (.map (some b)) (.int .i64 k) false).run Tryz.prog w=.ok ((f k).getD z) w:=by
 obtain ⟨D,h1,_,h2⟩:=h;obtain ⟨v,ps,hr,hv⟩:=h1.lookup Pp ht (hz w) rfl (key3 hk);obtain ⟨a1,a2⟩:=h2 k hk;rw [a2] at hv;simp [hold] at hv;rw [hr,hv.1]
theorem Qt.set (h:Qt w b n f) {t e:TypeId} (ht:Tryz.prog.underlying t=some (.map 3 e)) (hn:n < maxLen) {k:Int} (hk:(Lit.int .i64 k).wf=true) (v:Value):
  ∃ w',(Instr.mapUpdate t (.map (some b)) (.int .i64 k) v).run Tryz.prog w=.ok () w'/\Qt w' b (if (f k).isSome then n else n+1) (J1 f k v)/\Ze [b] w w':=by
 obtain ⟨D,h1,h0,h2⟩:=h;obtain ⟨w',hr,hv,hg⟩:=h1.update Pp ht hn (key3 hk) (show hold v=some (.held v,[]) from rfl);have hkl:WideAt.IsKeyLit (.int .i64 k):=(Pp).key (key3 hk);have hv':w'.ownsMap Tryz.prog 3 hold b (if (f k).isSome then n else n+1) (D.put (.int .i64 k) (.held v)):=by
  obtain ⟨es,cl,e1,e2,e3,e4⟩:=hv;refine ⟨es,cl,e1,e2,?_,e4⟩;have hz:Maps.size (D.put (.int .i64 k) (.held v))=es.size:=by rw [e4];simp [Maps.size,length_sorted]
  rw [<-hz,Maps.size_put (h1.tidy Pp),(h2 k hk).1];have:=h1.size_le;split <;> omega
 refine ⟨w',hr,⟨_,hv',h0.put _ _,λ i hi=>?_⟩,⟨hg.os,hg.tape,hg.output,hg.size,λ k hk hs=>hg.block k hk (by simpa [eq_comm] using hs)⟩⟩;unfold J1
 by_cases hik:i=k
 ·subst hik;rw [if_pos rfl];exact ⟨Maps.has_put_same h0 hkl _,λ z=>Maps.atKey_put_same h0 hkl _ _⟩
 ·rw [if_neg hik];have hne:(Lit.int .i64 i)≠.int .i64 k:=by simpa using hik
  obtain ⟨a1,a2⟩:=h2 i hi;exact ⟨(Maps.has_put_other hne _).trans a1,λ z=>(Maps.atKey_put_other hne _ _).trans (a2 z)⟩
end
end Go.Proofs.YtkhonmhnchdpkaaGreat
