/- A part of the proof; no condition. -/
import Derived.Test.YtkhonmhnchdpkaaGreatB12
set_option maxRecDepth 100000
set_option maxHeartbeats 40000000
namespace Go.Proofs.YtkhonmhnchdpkaaGreat
open Go.RowKit _root_.Go.Proofs.Tryz
open Go renaming World→W
open Value renaming int→U,pointer→E,slice→L,float→Z,agg→A_
open IntKind renaming i64→Y
open FloatKind renaming f64→V
open Obj renaming cells→X
open Option renaming some→I,none→O
open Ending renaming returned→R_
open _root_.Go.Proofs.Tryz renaming prog→N
section
def Y1 (c t f k:Int):Prop:=1<=c/\c<=256/\1<=t/\t<=8/\1<=f/\f<=1024/\1<=k/\k<=32
theorem Su (c t f k:Int) (hb:c < 1) (w:W):
  Calls N 39 #[A_ #[U Y c,U Y t,U Y f,U Y k]] w λ e w'=>e=R_ (.tuple #[A_ #[U Y 0,U Y 0,U Y 0,U Y 0,U Y 0,U Y 0],U Y 1])/\Ze [] w w':=by
 go_enter func39,ntmps39;go_wp2;exact bodyPost_ret (v:=.tuple #[A_ #[U Y 0,U Y 0,U Y 0,U Y 0,U Y 0,U Y 0],U Y 1]) (by simp [results,results39,go_sem]) J ⟨J,(by repeat (first|with_reducible exact Zr_ _ _|with_reducible assumption|with_reducible refine Ze.drew ?_|with_reducible refine Ze.alloc ?_ _|with_reducible refine Ze.xy ?_ _ _ _ (by simp)))⟩
theorem St (c t f k:Int) (h0:1<=c) (hb:256 < c) (w:W):
  Calls N 39 #[A_ #[U Y c,U Y t,U Y f,U Y k]] w λ e w'=>e=R_ (.tuple #[A_ #[U Y 0,U Y 0,U Y 0,U Y 0,U Y 0,U Y 0],U Y 1])/\Ze [] w w':=by
 go_enter func39,ntmps39;go_wp2;exact bodyPost_ret (v:=.tuple #[A_ #[U Y 0,U Y 0,U Y 0,U Y 0,U Y 0,U Y 0],U Y 1]) (by simp [results,results39,go_sem]) J ⟨J,(by repeat (first|with_reducible exact Zr_ _ _|with_reducible assumption|with_reducible refine Ze.drew ?_|with_reducible refine Ze.alloc ?_ _|with_reducible refine Ze.xy ?_ _ _ _ (by simp)))⟩
theorem Ss (c t f k:Int) (h0:1<=c) (h1:c<=256) (hb:t < 1) (w:W):
  Calls N 39 #[A_ #[U Y c,U Y t,U Y f,U Y k]] w λ e w'=>e=R_ (.tuple #[A_ #[U Y 0,U Y 0,U Y 0,U Y 0,U Y 0,U Y 0],U Y 1])/\Ze [] w w':=by
 go_enter func39,ntmps39;go_wp2;exact bodyPost_ret (v:=.tuple #[A_ #[U Y 0,U Y 0,U Y 0,U Y 0,U Y 0,U Y 0],U Y 1]) (by simp [results,results39,go_sem]) J ⟨J,(by repeat (first|with_reducible exact Zr_ _ _|with_reducible assumption|with_reducible refine Ze.drew ?_|with_reducible refine Ze.alloc ?_ _|with_reducible refine Ze.xy ?_ _ _ _ (by simp)))⟩
theorem Sr (c t f k:Int) (h0:1<=c) (h1:c<=256) (h2:1<=t) (hb:8 < t) (w:W):
  Calls N 39 #[A_ #[U Y c,U Y t,U Y f,U Y k]] w λ e w'=>e=R_ (.tuple #[A_ #[U Y 0,U Y 0,U Y 0,U Y 0,U Y 0,U Y 0],U Y 1])/\Ze [] w w':=by
 go_enter func39,ntmps39;go_wp2;exact bodyPost_ret (v:=.tuple #[A_ #[U Y 0,U Y 0,U Y 0,U Y 0,U Y 0,U Y 0],U Y 1]) (by simp [results,results39,go_sem]) J ⟨J,(by repeat (first|with_reducible exact Zr_ _ _|with_reducible assumption|with_reducible refine Ze.drew ?_|with_reducible refine Ze.alloc ?_ _|with_reducible refine Ze.xy ?_ _ _ _ (by simp)))⟩
theorem Sq (c t f k:Int) (h0:1<=c) (h1:c<=256) (h2:1<=t) (h3:t<=8) (hb:f < 1) (w:W):
  Calls N 39 #[A_ #[U Y c,U Y t,U Y f,U Y k]] w λ e w'=>e=R_ (.tuple #[A_ #[U Y 0,U Y 0,U Y 0,U Y 0,U Y 0,U Y 0],U Y 1])/\Ze [] w w':=by
 go_enter func39,ntmps39;go_wp2;exact bodyPost_ret (v:=.tuple #[A_ #[U Y 0,U Y 0,U Y 0,U Y 0,U Y 0,U Y 0],U Y 1]) (by simp [results,results39,go_sem]) J ⟨J,(by repeat (first|with_reducible exact Zr_ _ _|with_reducible assumption|with_reducible refine Ze.drew ?_|with_reducible refine Ze.alloc ?_ _|with_reducible refine Ze.xy ?_ _ _ _ (by simp)))⟩
theorem Sp (c t f k:Int) (h0:1<=c) (h1:c<=256) (h2:1<=t) (h3:t<=8) (h4:1<=f) (hb:1024 < f) (w:W):
  Calls N 39 #[A_ #[U Y c,U Y t,U Y f,U Y k]] w λ e w'=>e=R_ (.tuple #[A_ #[U Y 0,U Y 0,U Y 0,U Y 0,U Y 0,U Y 0],U Y 1])/\Ze [] w w':=by
 go_enter func39,ntmps39;go_wp2;exact bodyPost_ret (v:=.tuple #[A_ #[U Y 0,U Y 0,U Y 0,U Y 0,U Y 0,U Y 0],U Y 1]) (by simp [results,results39,go_sem]) J ⟨J,(by repeat (first|with_reducible exact Zr_ _ _|with_reducible assumption|with_reducible refine Ze.drew ?_|with_reducible refine Ze.alloc ?_ _|with_reducible refine Ze.xy ?_ _ _ _ (by simp)))⟩
theorem So (c t f k:Int) (h0:1<=c) (h1:c<=256) (h2:1<=t) (h3:t<=8) (h4:1<=f) (h5:f<=1024) (hb:k < 1) (w:W):
  Calls N 39 #[A_ #[U Y c,U Y t,U Y f,U Y k]] w λ e w'=>e=R_ (.tuple #[A_ #[U Y 0,U Y 0,U Y 0,U Y 0,U Y 0,U Y 0],U Y 1])/\Ze [] w w':=by
 go_enter func39,ntmps39;go_wp2;exact bodyPost_ret (v:=.tuple #[A_ #[U Y 0,U Y 0,U Y 0,U Y 0,U Y 0,U Y 0],U Y 1]) (by simp [results,results39,go_sem]) J ⟨J,(by repeat (first|with_reducible exact Zr_ _ _|with_reducible assumption|with_reducible refine Ze.drew ?_|with_reducible refine Ze.alloc ?_ _|with_reducible refine Ze.xy ?_ _ _ _ (by simp)))⟩
theorem Sn (c t f k:Int) (h0:1<=c) (h1:c<=256) (h2:1<=t) (h3:t<=8) (h4:1<=f) (h5:f<=1024) (h6:1<=k) (hb:32 < k) (w:W):
  Calls N 39 #[A_ #[U Y c,U Y t,U Y f,U Y k]] w λ e w'=>e=R_ (.tuple #[A_ #[U Y 0,U Y 0,U Y 0,U Y 0,U Y 0,U Y 0],U Y 1])/\Ze [] w w':=by
 go_enter func39,ntmps39;go_wp2;exact bodyPost_ret (v:=.tuple #[A_ #[U Y 0,U Y 0,U Y 0,U Y 0,U Y 0,U Y 0],U Y 1]) (by simp [results,results39,go_sem]) J ⟨J,(by repeat (first|with_reducible exact Zr_ _ _|with_reducible assumption|with_reducible refine Ze.drew ?_|with_reducible refine Ze.alloc ?_ _|with_reducible refine Ze.xy ?_ _ _ _ (by simp)))⟩
theorem Ep (c t f k:Int) (h:¬ Y1 c t f k) (w:W):
  Calls N 39 #[A_ #[U Y c,U Y t,U Y f,U Y k]] w λ e w'=>e=R_ (.tuple #[A_ #[U Y 0,U Y 0,U Y 0,U Y 0,U Y 0,U Y 0],U Y 1])/\Ze [] w w':=by
 unfold Y1 at h
 by_cases b0:c < 1
 ·exact Su c t f k b0 w
 by_cases b1:256 < c
 ·exact St c t f k (by omega) b1 w
 by_cases b2:t < 1
 ·exact Ss c t f k (by omega) (by omega) b2 w
 by_cases b3:8 < t
 ·exact Sr c t f k (by omega) (by omega) (by omega) b3 w
 by_cases b4:f < 1
 ·exact Sq c t f k (by omega) (by omega) (by omega) (by omega) b4 w
 by_cases b5:1024 < f
 ·exact Sp c t f k (by omega) (by omega) (by omega) (by omega) (by omega) b5 w
 by_cases b6:k < 1
 ·exact So c t f k (by omega) (by omega) (by omega) (by omega) (by omega) (by omega) b6 w
 by_cases b7:32 < k
 ·exact Sn c t f k (by omega) (by omega) (by omega) (by omega) (by omega) (by omega) (by omega) b7 w
 ·omega
theorem Ue (c t f k:Int) (h:Y1 c t f k) (w:W):
  Calls N 39 #[A_ #[U Y c,U Y t,U Y f,U Y k]] w λ e w'=>e=R_ (.tuple #[A_ #[U Y 0,U Y 1,U Y 2,U Y 3,U Y (3+t),U Y (3+t+3 * c)],U Y 0])/\Ze [] w w':=by
 obtain ⟨h0,h1,h2,h3,h4,h5,h6,h7⟩:=h;go_enter func39,ntmps39;go_wp2;exact bodyPost_ret (v:=.tuple #[A_ #[U Y 0,U Y 1,U Y 2,U Y 3,U Y (3+t),U Y (3+t+3 * c)],U Y 0]) (by simp [results,results39,go_sem]) J ⟨J,(by repeat (first|with_reducible exact Zr_ _ _|with_reducible assumption|with_reducible refine Ze.drew ?_|with_reducible refine Ze.alloc ?_ _|with_reducible refine Ze.xy ?_ _ _ _ (by simp)))⟩
end
section
attribute [local go_sem] Zi
def m0 (c0 c1 c2 c3 tag:Int) (code:List Xg):Zk:=Uw c0 c1 c2 c3 tag code []
def mp0 (mb sb kb bb pb:Nat) (vc vb:Value):MP:=⟨mb,sb,kb,bb,pb,vc,L O 0 0,L O 0 0,L O 0 0,L O 0 0,vb⟩
def Tl (n0:Nat) (v:Value) (w:W):Prop:=∃ sb,v=E (I ⟨sb,0,O⟩)/\U1 w sb (L O 0 0) 64 []/\n0<=sb
def Tk (n0:Nat) (v:Value) (w:W):Prop:=∃ sb,v=E (I ⟨sb,0,O⟩)/\U0 w sb (L O 0 0) 16 []/\n0<=sb
theorem Tl.mod {n0:Nat} {v:Value} {w w':W} (h:Tl n0 v w) (m:Ze [] w w'):Tl n0 v w':=by
 obtain ⟨sb,h1,h2,h3⟩:=h;exact ⟨sb,h1,h2.mod m (by simp) (by simp),h3⟩
theorem Tk.mod {n0:Nat} {v:Value} {w w':W} (h:Tk n0 v w) (m:Ze [] w w'):Tk n0 v w':=by
 obtain ⟨sb,h1,h2,h3⟩:=h;exact ⟨sb,h1,h2.mod m (by simp) (by simp),h3⟩
def Ph (n0 bb pb:Nat) (vc vb:Value) (s:Zk) (v:Value) (w:W):Prop:=
 ∃ sb kb,v=.agg (Q6 (mp0 0 sb kb bb pb vc vb) s)/\U1 w sb (L O 0 0) 64 []/\U0 w kb (L O 0 0) 16 []/\n0<=sb/\n0<=kb
theorem Ph.mod {n0 bb pb:Nat} {vc vb:Value} {s:Zk} {v:Value} {w w':W} (h:Ph n0 bb pb vc vb s v w) (m:Ze [] w w'):Ph n0 bb pb vc vb s v w':=by
 obtain ⟨sb,kb,h1,h2,h3,h4⟩:=h;exact ⟨sb,kb,h1,h2.mod m (by simp) (by simp),h3.mod m (by simp) (by simp),h4⟩
def Ar (n0 bb pb:Nat) (vc vb:Value) (s:Zk) (v:Value) (w:W):Prop:=
 ∃ mb sb kb,v=E (I ⟨mb,0,O⟩)/\w.heap[mb]? =I (.cells (Q6 (mp0 mb sb kb bb pb vc vb) s) 185 (0,0))/\U1 w sb (L O 0 0) 64 []/\U0 w kb (L O 0 0) 16 []/\n0<=mb/\n0<=sb/\n0<=kb
theorem Ar.mod {n0 bb pb:Nat} {vc vb:Value} {s:Zk} {v:Value} {w w':W} (h:Ar n0 bb pb vc vb s v w) (m:Ze [] w w'):Ar n0 bb pb vc vb s v w':=by
 obtain ⟨mb,sb,kb,h1,h0,h2,h3,h4⟩:=h;exact ⟨mb,sb,kb,h1,m.at h0 (by simp),h2.mod m (by simp) (by simp),h3.mod m (by simp) (by simp),h4⟩
def NewM (w:W) (s:Zk) (e:Ending) (w':W):Prop:=∃ p,e=R_ (E (I ⟨p.mb,0,O⟩))/\Zg w' p s/\Ze [] w w'/\∀ k∈p.blocks,w.heap.size<=k
def Rf (args:List Nat) (k:Nat):Nat->Nat:=λ i=>if i < k then Zq (args.getD i 0) else 0
def mK (c0 c1 c2 c3 tag:Int) (code:List Xg) (args:List Nat) (k:Nat):Zk:={m0 c0 c1 c2 c3 tag code with args:=Rf args k}
theorem mK_zero {c0 c1 c2 c3 tag:Int} {code:List Xg} {args:List Nat}:mK c0 c1 c2 c3 tag code args 0=m0 c0 c1 c2 c3 tag code:=by
 unfold mK m0 Uw Rf;simp
theorem mK_all {c0 c1 c2 c3 tag:Int} {code:List Xg} {args:List Nat}:mK c0 c1 c2 c3 tag code args args.length=Uw c0 c1 c2 c3 tag code args:=J
theorem mK_set {c0 c1 c2 c3 tag:Int} {code:List Xg} {args:List Nat} {k:Nat} (q:MP) (hk:k < 8):(Q6 q (mK c0 c1 c2 c3 tag code args k)).setIfInBounds (7+k) (Z V (Zq (args.getD k 0)))=Q6 q (mK c0 c1 c2 c3 tag code args (k+1)):=by
 have e:∀ i,Rf args (k+1) i=if i=k then Zq (args.getD k 0) else Rf args k i:=by
  intro i;unfold Rf
  by_cases h1:i=k
  ·subst h1;simp
  ·by_cases h2:i < k
   ·rw [P9 (by omega),Q9 h1,P9 h2]
   ·rw [Q9 (by omega),Q9 h1,Q9 h2]
 unfold Q6 mK;simp only [e]
 match k,hk with
 |0,_=>rfl
 |1,_=>rfl
 |2,_=>rfl
 |3,_=>rfl
 |4,_=>rfl
 |5,_=>rfl
 |6,_=>rfl
 |7,_=>rfl
theorem S0 {q:MP} {s:Zk} {k:Nat} (hk:k < 8):(Q6 q s)[7+k]? =I (Z V (s.args k)):=by
 match k,hk with
 |0,_=>rfl
 |1,_=>rfl
 |2,_=>rfl
 |3,_=>rfl
 |4,_=>rfl
 |5,_=>rfl
 |6,_=>rfl
 |7,_=>rfl
theorem T7:(N.info? 106).map (λ i=>(i.zero,i.size,i.bytes))=I (I (A_ #[U Y 0,U Y 0,Z V 0]),3,24):=by kernel_rfl
theorem Ir (l:List Xg):∀ u∈Yl l,u.oneCell'=true:=by
 intro u hu;unfold Yl at hu;rw [List.mem_flatMap] at hu;obtain ⟨i,_,hi⟩:=hu;simp at hi;rcases hi with rfl|rfl|rfl <;> rfl
end
section
attribute [local go_sem] Zi
def Wu (n0 bb pb:Nat) (vc vb:Value) (c0 c1 c2 c3 tag:Int) (code:List Xg):Nat->Value->W->Prop
 |0,v,_=>v=A_ #[U Y c0,U Y c1,U Y c2,U Y c3]
 |1,v,_=>v=A_ #[U Y tag,vc]
 |2,v,_=>v=A_ #[U Y tag,vc]
 |3,v,_=>v=U Y (W6 (Xl tag code))
 |4,v,_=>v=.bool (!Xl tag code)
 |5,v,w=>Tl n0 v w
 |6,v,w=>Tk n0 v w
 |7,v,_=>v=E (I ⟨bb,0,O⟩)
 |8,v,w=>Ph n0 bb pb vc vb (m0 c0 c1 c2 c3 tag code) v w
 |9,v,w=>Ar n0 bb pb vc vb (m0 c0 c1 c2 c3 tag code) v w
 |_,_,_=>True
theorem mnewF_on (n0 bb pb:Nat) (vc vb:Value) (c0 c1 c2 c3 tag:Int) (code:List Xg) (i:Nat) (v:Value) (w w':W) (h:Wu n0 bb pb vc vb c0 c1 c2 c3 tag code i v w) (m:Ze [] w w'):Wu n0 bb pb vc vb c0 c1 c2 c3 tag code i v w':=by
 match i,h with
 |0,h=>exact h
 |1,h=>exact h
 |2,h=>exact h
 |3,h=>exact h
 |4,h=>exact h
 |5,h=>exact Tl.mod h m
 |6,h=>exact Tk.mod h m
 |7,h=>exact h
 |8,h=>exact Ph.mod h m
 |9,h=>exact Ar.mod h m
 |i+10,h=>trivial
theorem Ic (n0 bb pb:Nat) (vc vb:Value) (c0 c1 c2 c3 tag:Int) (code:List Xg) (i:Nat) (h:10<=i) (v:Value) (w:W):Wu n0 bb pb vc vb c0 c1 c2 c3 tag code i v w:=by
 match i,h with
 |j+10,_=>trivial
variable {w w' w0 w1 w2:W} {c0 c1 c2 c3 tag:Int} {code:List Xg} {args:List Nat} {vc va:Value}
theorem mnew_c (hcf:Y1 c0 c1 c2 c3) (hcode:w.ownsRow 0 106 3 vc code.length (Yl code)) (hcl:code.length<=5864062014635) (hargs:w.ownsRow 0 51 1 va args.length (args.map (Z V))) (hal:args.length<=8):
  Calls N 74 #[A_ #[U Y c0,U Y c1,U Y c2,U Y c3],A_ #[U Y tag,vc],va] w (NewM w (Uw c0 c1 c2 c3 tag code args)):=by
 obtain ⟨aa,ca,rfl⟩:=Zo hargs;have dl:decide (8 < args.length)=false:=D9 (by omega);have b3:((w.alloc (X #[U Y c0,U Y c1,U Y c2,U Y c3] 23)).alloc (X #[U Y tag,vc] 110)).heap[w.heap.size]? =I (X #[U Y c0,U Y c1,U Y c2,U Y c3] 23 (0,0)):=Zf _ (Zc _ _);have b4:((w.alloc (X #[U Y c0,U Y c1,U Y c2,U Y c3] 23)).alloc (X #[U Y tag,vc] 110)).heap[w.heap.size+1]? =I (X #[U Y tag,vc] 110 (0,0)):=Rb w _ _;have M1:=Zh_ (show Ze [] w ((w.alloc (X #[U Y c0,U Y c1,U Y c2,U Y c3] 23)).alloc (X #[U Y tag,vc] 110)) from ((Zr_ _ _).alloc _).alloc _);have hpl:=λ w=>Ue c0 c1 c2 c3 hcf w;have hbf:=λ w=>buf_new c3 (by obtain ⟨_,_,_,_,_,_,h,_⟩:=hcf;exact h) (by obtain ⟨_,_,_,_,_,_,_,h⟩:=hcf;exact h) w;have HCODE:=Zh_ hcode;have HARGS:=Zh_ hargs;clear hcode hargs hcf;go_enter func74,ntmps74;go_upto_region 1 with fail;generalize (w.alloc (X #[U Y c0,U Y c1,U Y c2,U Y c3] 23)).alloc (X #[U Y tag,vc] 110)=w1 at *
 have c0':=Za (i:=0) b3 J;have c1':=Za (i:=1) b3 J;have c2':=Za (i:=2) b3 J;have c3':=Za (i:=3) b3 J;have l3:=B9 b3;have B3:=Zh_ b3;have B4:=Zh_ b4;clear b3 b4;go_wp2_with fail;refine (hpl _).mono ?_;rintro e w2 ⟨rfl,m2⟩;have b3:=m2.at B3.out (by simp);have b3':=Za (i:=3) b3 J;have l3:=B9 b3;have M2:=Zh_ (M1.out.trans m2);have B3b:=Zh_ b3;have B4b:=Zh_ (m2.at B4.out (by simp));clear c0' c1' c2' c3' B3 B4 m2 hpl b3;go_wp2_with fail;refine (hbf _).mono ?_;rintro e w3 ⟨bb,pb,vb,rfl,hb,hvb,hbb,hpb,m3⟩;have M23:Ze [] w2 w3:=((Zr_ [] w2).alloc _).trans m3;have M3:=Zh_ (M2.out.trans M23);have b3:=M23.at B3b.out (by simp);have b4:=M23.at B4b.out (by simp);have HB:=Zh_ hb;have HVB:=Zh_ hvb;have HBB:=Zh_ (show w.heap.size<=bb from Nat.le_trans M2.out.size (Nat.le_trans (by simp) hbb));have HPB:=Zh_ (show w.heap.size<=pb from Nat.le_trans M2.out.size (Nat.le_trans (by simp) hpb));have B3:=Zh_ b3;have B4:=Zh_ b4;have b41:=Za (i:=1) b4 J;have f41:=Zb (i:=1) b4;have l4:=B9 b4;clear hb hvb hbb hpb m3 M23 b3 b4 b3' l3 hbf B3b B4b M2;go_upto_region 7 with fail
 go_cut [36] (λ _ wx=>∃ vc',wx.heap[w.heap.size]? =I (X #[U Y c0,U Y c1,U Y c2,U Y c3] 23 (0,0))/\wx.heap[w.heap.size+1]? =I (X #[U Y tag,vc'] 110 (0,0))/\Yb w.heap.size 106 3 code.length (Yl code) vc' wx/\V3 wx bb pb vb ⟨[],λ _=>O,c3⟩/\Ze [] w wx)
 case first=>
  rcases HCODE.out.2 with ⟨hv,h0⟩|⟨g,cap,cur,hv,-,-⟩
  ·rw [hv] at b41;have h00:code=[]:=List.eq_nil_of_length_eq_zero h0;have HX:=Zh_ h00;have HV:=Zh_ hv;have HH:=Zh_ (show (w3.setCell ⟨w.heap.size+1,1,O⟩ (L O 0 0)).heap[w.heap.size+1]? =I (X #[U Y tag,L O 0 0] 110 (0,0)) from Zd _ B4.out);have mm:Ze [w.heap.size+1] w3 (w3.setCell ⟨w.heap.size+1,1,O⟩ (L O 0 0)):=(Zr_ _ _).xw _ _;have HB':=Zh_ (HB.out.mod mm (λ hm=>by simp at hm;have:=Zp HB.out.hd;rw [hm,Zp B4.out] at this;exact absurd this (by decide)) (λ hm=>by simp at hm;have:=Fg HB.out.map;rw [hm,Zp B4.out] at this;exact absurd this (by decide)) (by rw [HVB.out];simp));have MM:=Zh_ mm;clear mm hv h0 h00;go_wp2_with fail;go_meet;exact ⟨_,MM.out.at B3.out (by simp),HH.out,⟨by rw [HX.out];exact World.ownsRow_nil _ _ _ _,by simp [Value.ownBlock]⟩,HB'.out,M3.out.then MM.out (λ k hk=>.inr (by simp at hk;omega))⟩
  ·have ho:=Zt HCODE.out M3.out (by simp);rw [hv] at b41 ho;have hcs:=ho.cells (g:=g) J;obtain ⟨i0,hi0,hz0,hz1,hz2⟩:=info_parts T7;have hN:=Th code;clear hv ho;go_wp2_with (at_builtin;refine wpList_append_own_at _ J _ _ 108 J 0 106 i0 (A_ #[U Y 0,U Y 0,Z V 0]) 3 24 underlying108 hi0 hz0 hz1 hz2 J (by decide) _ 0 [] J (World.ownsRow_nil _ _ _ _) ⟨g,0,O⟩ code.length cap (Yl code) J hN ?CA ?CB ?CC ?CD ?CE ?_)
   case CA=>exact hcs
   case CB=>exact Ir code
   case CC=>unfold maxLen;omega
   case CD=>omega
   case CE=>exact Nat.zero_le _
   intro u' w5 ho5 hg5 _ hat;have C5:=Vl.of (t:=106) (z:=3) (by simpa using ho5) hg5 hat;obtain ⟨u5,hu5,h51,h52,m5⟩:=C5;obtain rfl:=Ending.returned.inj hu5;obtain ⟨a5,k5,rfl⟩:=Zo h51;have B45:=m5.at B4.out (by simp);have b41':w5.cell? ⟨w.heap.size+1,1,O⟩=I vc:=Za B45 J;have f41':=Zb (i:=1) B45;have l45:=B9 B45;have mm:Ze [w.heap.size+1] w5 (w5.setCell ⟨w.heap.size+1,1,O⟩ (L a5 code.length k5)):=(Zr_ _ _).xw _ _;have HBm:=HB.out.mod m5 (by simp) (by simp) (by simp);have HB':=Zh_ (HBm.mod mm (λ hm=>by simp at hm;have:=Zp HBm.hd;rw [hm,Zp B45] at this;exact absurd this (by decide)) (λ hm=>by simp at hm;have:=Fg HBm.map;rw [hm,Zp B45] at this;exact absurd this (by decide)) (by rw [HVB.out];simp));have HH:=Zh_ (show (w5.setCell ⟨w.heap.size+1,1,O⟩ (L a5 code.length k5)).heap[w.heap.size+1]? =I (X #[U Y tag,L a5 code.length k5] 110 (0,0)) from Zd _ B45);have R5:Yb w.heap.size 106 3 code.length (Yl code) (L a5 code.length k5) w5:=⟨h51,λ g hg=>Nat.le_trans M3.out.size (h52 g hg)⟩;have HR:=Zh_ (show Yb w.heap.size 106 3 code.length (Yl code) (L a5 code.length k5) (w5.setCell ⟨w.heap.size+1,1,O⟩ (L a5 code.length k5)) from ⟨Zt R5.1 mm (λ g hg hm=>by simp at hm;have:=Yf R5.1 hg;rw [hm,Zp B45] at this;exact absurd this (by decide)),R5.2⟩);have MM:=Zh_ mm;have M5:=Zh_ m5;clear mm ho5 hg5 hat h51 h52 m5 HBm R5 hcs hN B45;go_wp2_with fail;go_meet;exact ⟨_,MM.out.at (M5.out.at B3.out (by simp)) (by simp),HH.out,HR.out,HB'.out,(M3.out.trans M5.out).then MM.out (λ k hk=>.inr (by simp at hk;omega))⟩
 case rest=>
  generalize wc=w4 at *
  obtain ⟨vc',B3',B4',HR',HB',MC⟩:=hcut;obtain ⟨h3,hh3⟩:∃ h,h=w.heap.size:=⟨_,J⟩;obtain ⟨h4,hh4⟩:∃ h,h=w.heap.size+1:=⟨_,J⟩;obtain ⟨acv,kcv,qcv⟩:=Zo HR'.1;have QCV:=Zh_ qcv;have HK0:=Zh_ (λ (wx:W) (hR:Ze [] w4.drew wx)=>(show wx.heap[h3]? =I (X #[U Y c0,U Y c1,U Y c2,U Y c3] 23 (0,0))/\wx.heap[h4]? =I (X #[U Y tag,vc'] 110 (0,0))/\wx.ownsRow 0 106 3 vc' code.length (Yl code) from by
   have m:Ze [] w4 wx:=(Zr_ [] w4).drew.trans hR;subst hh3 hh4;exact ⟨m.at B3' (by simp),m.at B4' (by simp),Zt HR'.1 m (by simp)⟩))
  have MC':=Zh_ MC;have HB1:=Zh_ HB';have HR1:=Zh_ HR';have HNW:=Zh_ MC.size;rw [<-hh4,<-hh3];obtain ⟨n0,hq0⟩:∃ n,n=w4.heap.size:=⟨_,J⟩;have hn0:n0<=w4.drew.heap.size:=Nat.le_of_eq hq0;have HNC:=Zh_ hq0;have HH3:=Zh_ hh3;clear b41 f41 l4 B3 B4 B3' B4' HR' HB' MC HB hh3 hh4 hq0 HNW qcv M3 dl;generalize vc'=vcc at *
  go_upto_region 8 with fail
  go_cut [11] (λ A wx=>Ar n0 bb pb vcc vb (m0 c0 c1 c2 c3 tag code) A wx/\Ze [] w4 wx)
  case first=>
   refine Yt (by kernel_rfl) 10 (by rfl) (λ x y=>Ze [] x y) (Wu n0 bb pb vcc vb c0 c1 c2 c3 tag code) (by kernel_rfl) (by rfl) (by kernel_rfl) (mnewF_on n0 bb pb vcc vb c0 c1 c2 c3 tag code) (λ a=>Zr_ _ _) (λ a b c h k=>h.trans k) ?_ ?_ ?_
   ·exact λ i v w' hv o ho hd=>Vi (m:=10) (by kernel_rfl) (Ic n0 bb pb vcc vb c0 c1 c2 c3 tag code) ho hd
   ·intro i o hi ho
    match i,hi with
    |0,_=>obtain rfl:=Zo_ ho;intro a wx hR hF hO;have e3:=To_ hO 3 (E (I ⟨h3,0,O⟩));clear hF hO;obtain ⟨K3,K4,HC⟩:=HK0.out wx hR;have c0:=Za (i:=0) K3 J;have c1:=Za (i:=1) K3 J;have c2:=Za (i:=2) K3 J;have c3:=Za (i:=3) K3 J;go_simp;exact ⟨Zr_ _ _,J⟩
    |1,_=>obtain rfl:=Zo_ ho;intro a wx hR hF hO;have e4:=To_ hO 4 (E (I ⟨h4,0,O⟩));clear hF hO;obtain ⟨K3,K4,HC⟩:=HK0.out wx hR;have c0:=Za (i:=0) K4 J;have c1:=Za (i:=1) K4 J;go_simp;exact ⟨Zr_ _ _,J⟩
    |2,_=>obtain rfl:=Zo_ ho;intro a wx hR hF hO;have e4:=To_ hO 4 (E (I ⟨h4,0,O⟩));clear hF hO;obtain ⟨K3,K4,HC⟩:=HK0.out wx hR;have c0:=Za (i:=0) K4 J;have c1:=Za (i:=1) K4 J;go_simp;exact ⟨Zr_ _ _,J⟩
    |3,_=>obtain rfl:=Zo_ ho;intro a wx hR hF hO;have e40:=Tf_ hF 40 2 (A_ #[U Y tag,vcc]);clear hF hO;obtain ⟨K3,K4,HC⟩:=HK0.out wx hR;go_simp;exact Calls.mono (check_c HC) (λ e w2 ⟨he,hw⟩=>⟨_,he,hw,J⟩)
    |4,_=>
     obtain rfl:=Zo_ ho;intro a wx hR hF hO;have e41:=Tf_ hF 41 3 (U Y (W6 (Xl tag code)));clear hF hO;unfold W6 at e41;cases hp:Xl tag code
     ·rw [hp] at e41;go_simp;exact ⟨Zr_ _ _,by show _=Value.bool (!Xl tag code);rw [hp];rfl⟩
     ·rw [hp] at e41;go_simp;exact ⟨Zr_ _ _,by show _=Value.bool (!Xl tag code);rw [hp];rfl⟩
    |5,_=>obtain rfl:=Zo_ ho;intro a wx hR hF hO;clear hF hO;go_simp;refine Calls.mono (stk_newF 64 (by decide) (by decide) wx) ?_;rintro e w' ⟨sb,rfl,h1,h2,h3⟩;exact ⟨_,J,h3,sb,J,h1,Nat.le_trans (Nat.le_trans hn0 hR.size) h2⟩
    |6,_=>obtain rfl:=Zo_ ho;intro a wx hR hF hO;clear hF hO;go_simp;refine Calls.mono (stk_newI 16 (by decide) (by decide) wx) ?_;rintro e w' ⟨sb,rfl,h1,h2,h3⟩;exact ⟨_,J,h3,sb,J,h1,Nat.le_trans (Nat.le_trans hn0 hR.size) h2⟩
    |7,_=>obtain rfl:=Zo_ ho;intro a wx hR hF hO;have e9:=To_ hO 9 (E (I ⟨bb,0,O⟩));clear hF hO;go_simp;exact ⟨Zr_ _ _,J⟩
    |8,_=>obtain rfl:=Zo_ ho;intro a wx hR hF hO;have e38:=Tf_ hF 38 0 (A_ #[U Y c0,U Y c1,U Y c2,U Y c3]);have e39:=Tf_ hF 39 1 (A_ #[U Y tag,vcc]);have e42:=Tf_ hF 42 4 (.bool (!Xl tag code));have e43:Tl n0 (a.eval (.tmp 43)) wx:=hF 43 5 _ (by kernel_rfl) J J;have e44:Tk n0 (a.eval (.tmp 44)) wx:=hF 44 6 _ (by kernel_rfl) J J;have e45:=Tf_ hF 45 7 (E (I ⟨bb,0,O⟩));clear hF hO;obtain ⟨sb,q43,k43,n43⟩:=e43;obtain ⟨kb,q44,k44,n44⟩:=e44;replace q43:a.tmps[43]?.getD undef=_:=(show a.tmps[43]?.getD undef=a.eval (.tmp 43) by simp [Act.eval]).trans q43;replace q44:a.tmps[44]?.getD undef=_:=(show a.tmps[44]?.getD undef=a.eval (.tmp 44) by simp [Act.eval]).trans q44;have H43:=Zh_ k43;have H44:=Zh_ k44;clear k43 k44;go_simp;exact ⟨Zr_ _ _,sb,kb,J,H43.out,H44.out,n43,n44⟩
    |9,_=>obtain rfl:=Zo_ ho;intro a wx hR hF hO;have e46:Ph n0 bb pb vcc vb (m0 c0 c1 c2 c3 tag code) (a.eval (.tmp 46)) wx:=hF 46 8 _ (by kernel_rfl) J J;clear hF hO;obtain ⟨sb,kb,q46,k43,k44,n43,n44⟩:=e46;replace q46:a.tmps[46]?.getD undef=.agg (Q6 (mp0 0 sb kb bb pb vcc vb) (m0 c0 c1 c2 c3 tag code)):=(show a.tmps[46]?.getD undef=a.eval (.tmp 46) by simp [Act.eval]).trans q46;have H43:=Zh_ k43;have H44:=Zh_ k44;clear k43 k44;go_simp;exact ⟨(Zr_ _ _).alloc _,wx.heap.size,sb,kb,J,heap_alloc_new _ _,H43.out.mod ((Zr_ [] _).alloc _) (by simp) (by simp),H44.out.mod ((Zr_ [] _).alloc _) (by simp) (by simp),Nat.le_trans hn0 hR.size,n43,n44⟩
    |j+10,hh=>omega
   ·intro vs w5 hR hv;have h47:Ar n0 bb pb vcc vb (m0 c0 c1 c2 c3 tag code) (vs 9) w5:=hv 9 (by decide);have H47:=Zh_ h47;have H5:=Zh_ ((Zr_ [] w4).drew.trans hR);obtain ⟨mb,sb,kb,e47,-⟩:=h47;have HE:=Zh_ e47;clear hR hv;simp only [Yx,List.take_succ_cons,List.take_zero,Act.put];go_simp;go_wp2_with fail;go_meet;exact ⟨by first|exact H47.out|(rw [<-HE.out];exact H47.out),H5.out⟩
  case rest=>
   obtain ⟨⟨mb,sb,kb,rfl,hbox,hsF,hsI,n1,n2,n3⟩,m8⟩:=hcut;have NC:n0=w4.heap.size:=HNC.out;have hM0:Zg wc (mp0 mb sb kb bb pb vcc vb) (mK c0 c1 c2 c3 tag code args 0):=by
    rw [mK_zero];exact ⟨hbox,Zt HR1.out.1 m8 (by simp),hsF,hsI,World.ownsRow_nil _ _ _ _,World.ownsRow_nil _ _ _ _,HB1.out.mod m8 (by simp) (by simp) (by rw [HVB.out];simp),by simp [mp0,Value.ownBlock],by simp [mp0,Value.ownBlock]⟩
   have hfr:∀ k∈(mp0 mb sb kb bb pb vcc vb).blocks,w.heap.size<=k:=by
    intro k hk;have l0:=MC'.out.size;rw [Y3] at hk;simp only [mp0] at hk;rcases hk with rfl|rfl|rfl|rfl|rfl|hk|hk|hk|hk|hk|hk
    ·omega
    ·omega
    ·omega
    ·exact HBB.out
    ·exact HPB.out
    ·exact HR1.out.2 k hk
    ·simp [Value.ownBlock] at hk
    ·simp [Value.ownBlock] at hk
    ·simp [Value.ownBlock] at hk
    ·simp [Value.ownBlock] at hk
    ·rw [HVB.out] at hk;cases hk
   have HF:=Zh_ hfr;have M8:=Zh_ (MC'.out.trans m8);have HMB:=Zh_ (show (mp0 mb sb kb bb pb vcc vb).mb=mb from J);have NW:=Zh_ (show w.heap.size<=mb by have:=MC'.out.size;omega);clear hbox hsF hsI n1 n2 n3 m8 NC hfr hn0 HK0 HB1 HR1 MC' HNC;generalize mp0 mb sb kb bb pb vcc vb=q8 at *
   go_wp2_with fail
   go_loopw [50] (λ i wr=>∃ k:Nat,k<=args.length/\i=U Y k/\Zg wr q8 (mK c0 c1 c2 c3 tag code args k)/\Ze [] w wr) (λ i _=>args.length - (intOf i).toNat)
   case atStart=>exact ⟨0,Nat.zero_le _,J,hM0,M8.out⟩
   case round=>
    obtain ⟨k,hk,rfl,hM,mr⟩:=hrel
    by_cases hlt:k < args.length
    ·have ha:=Zt HARGS.out mr (by simp);obtain ⟨ga,cga,hga,-⟩:=Ya ha (by omega);obtain rfl:aa=I ⟨ga,0,O⟩:=by injection hga
     have hx:(args.map (Z V))[k]? =I (Z V (args.getD k 0)):=by simp [hlt]
     have ck:=Jw ha hx;have lga:=Yr ha (g:=ga) J;have hmc:=hM.cell (7+k) (S0 (by omega));rw [HMB.out] at hmc;have cm:=hmc.1;have fm:=hmc.2;have hlm:=B9 hM.hd;rw [HMB.out] at hlm;have k0:(0:Int)<=(k:Int):=Int.natCast_nonneg _;have k8:(k:Int) < 8:=by omega
     have kl:decide (k < args.length)=true:=decide_eq_true hlt;have HM:=Zh_ hM;have MR:=Zh_ mr;clear hga hx ha hmc hM mr hM0;go_wp2_with fail
     go_region_held3 (λ wx=>True) (trivial) (first|(go_at_call 73;refine (Yq _ _).mono ?_;rintro e w9 ⟨rfl,hw9⟩;have hw9':=hw9.symm;subst hw9'))
     all_goals
      go_wp2;go_roundw
      case rel=>exact ⟨k+1,by omega,by go_num,by
       have h1:=((HM.out.mod ((Zr_ [] wr).drew) (by simp)).xz (7+k) (Z V (Zq (args.getD k 0))) (mK_set _ (by omega)) J J J J J J).1;rw [HMB.out,show args.getD k 0=args[k] by simp [hlt]] at h1;exact h1,MR.out.drew.setCell _ _ (.inr NW.out)⟩
      case measure=>simp [intOf];omega
    ·have kl:decide (k < args.length)=false:=D9 hlt;have hke:k=args.length:=by omega
     subst hke;have HM:=Zh_ hM;have MR:=Zh_ mr;clear hM mr hM0;go_wp2;go_ret;exact ⟨q8,by rw [HMB.out];rfl,by rw [<-mK_all];exact HM.out,MR.out,HF.out⟩
end
end Go.Proofs.YtkhonmhnchdpkaaGreat
