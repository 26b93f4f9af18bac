/- A part of the proof; no condition. -/
import Derived.Test.YtkhonmhnchdpkaaGreatB02
import Derived.WalkSmall
import Derived.Deep.RegionLaw
import Derived.Deep.AppendLies
set_option maxRecDepth 100000
set_option maxHeartbeats 40000000
namespace Go.Proofs.YtkhonmhnchdpkaaGreat
open Go.RowKit _root_.Go.Proofs.Tryz
open Go renaming World→W
open Value renaming int→U,pointer→E,slice→L,float→Z,agg→A9
open IntKind renaming i64→Y
open FloatKind renaming f64→V
open Obj renaming cells→X
open Option renaming some→I,none→O
open Ending renaming returned→R9
open _root_.Go.Proofs.Tryz renaming prog→N
section
attribute [local go_sem] Zi
structure Zk where
 c0:Int
 c1:Int
 c2:Int
 c3:Int
 tag:Int
 code:List Xg
 bad:Bool
 args:Nat->Nat
 locals:Nat->Nat
 qd:List Nat
 calls:List Int
 place:Int
 used:Int
 waits:Bool
 cell:Int
 qq:Int
 qn:Int
 zd:Int
 out:List Nat
 reads:List (Int×Nat)
 buf:Xc
structure MP where
 mb:Nat
 nb:Nat
 kb:Nat
 bb:Nat
 pb:Nat
 vc:Value
 vn:Value
 vk:Value
 vo:Value
 vr:Value
 vb:Value
def Q6 (p:MP) (s:Zk):Array Value:=#[U Y s.c0,U Y s.c1,U Y s.c2,U Y s.c3,U Y s.tag,p.vc,.bool s.bad,Z V (s.args 0),Z V (s.args 1),Z V (s.args 2),Z V (s.args 3),Z V (s.args 4),Z V (s.args 5),Z V (s.args 6),Z V (s.args 7),Z V (s.locals 0),Z V (s.locals 1),Z V (s.locals 2),Z V (s.locals 3),Z V (s.locals 4),Z V (s.locals 5),Z V (s.locals 6),Z V (s.locals 7),E (I ⟨p.nb,0,O⟩),E (I ⟨p.kb,0,O⟩),U Y s.place,U Y s.used,.bool s.waits,U Y s.cell,U Y s.qq,U Y s.qn,U Y s.zd,p.vo,p.vr,E (I ⟨p.bb,0,O⟩)]
variable {w w':W} {p p':MP} {s s':Zk} {S:List Nat}
structure Zg (w:W) (p:MP) (s:Zk):Prop where
 hd:w.heap[p.mb]? =I (.cells (Q6 p s) 185 (0,0))
 code:w.ownsRow 0 106 3 p.vc s.code.length (Yl s.code)
 qd:U1 w p.nb p.vn 64 s.qd
 calls:U0 w p.kb p.vk 16 s.calls
 out:w.ownsRow 0 51 1 p.vo s.out.length (s.out.map (Z V))
 reads:w.ownsRow 0 53 2 p.vr s.reads.length (Yj s.reads)
 buf:V3 w p.bb p.pb p.vb s.buf
 uu:∀ g,p.vn.ownBlock=I g->p.vo.ownBlock≠I g
 ur:∀ g,p.vk.ownBlock=I g->p.vb.ownBlock≠I g
def MP.blocks (p:MP):List Nat:=[p.mb,p.nb,p.kb,p.bb,p.pb]++(p.vc.ownBlock.toList++(p.vn.ownBlock.toList++(p.vk.ownBlock.toList++(p.vo.ownBlock.toList++(p.vr.ownBlock.toList++(p.vb.ownBlock.toList))))))
def Xt (w:W) (k:Nat):Option TypeId:=match w.heap[k]? with|some (.cells _ t _)=>I t|_=>O
theorem Zp {k:Nat} {cs:Array Value} {t:TypeId} {f:Nat×Nat} (h:w.heap[k]? =I (.cells cs t f)):Xt w k=I t:=by unfold Xt;rw [h]
theorem Yf {t:TypeId} {z n:Nat} {xs:List Value} {v:Value} (h:w.ownsRow 0 t z v n xs) {g:Nat} (hg:v.ownBlock=I g):Xt w g=I t:=by
 rcases h.2 with ⟨rfl,_⟩|⟨g',cap,cur,rfl,_,hgg,_⟩
 ·simp [Value.ownBlock] at hg
 ·simp [Value.ownBlock] at hg;subst hg;exact Zp hgg
theorem Fg {k n:Nat} {f:Int->Option Value} (h:Vg w k n f):Xt w k=O:=by
 obtain ⟨D,⟨es,cl,h1,_⟩,_⟩:=h;unfold Xt;rw [h1]
theorem Yr {t:TypeId} {z n:Nat} {xs:List Value} {v:Value} (h:w.ownsRow 0 t z v n xs) {g:Nat} (hg:v.ownBlock=I g):g < w.heap.size:=(h.lt g hg).2
theorem Zg.zk (h:Zg w p s):Xt w p.mb=I 185:=Zp h.hd
theorem Zg.jh (h:Zg w p s):Xt w p.nb=I 202:=Zp h.qd.1
theorem Zg.ji (h:Zg w p s):Xt w p.kb=I 204:=Zp h.calls.1
theorem Zg.jx (h:Zg w p s):Xt w p.bb=I 200:=Zp h.buf.hd
theorem Zg.jw (h:Zg w p s):Xt w p.pb=O:=Fg h.buf.map
theorem Zg.vx (h:Zg w p s) {g:Nat} (hg:p.vc.ownBlock=I g):Xt w g=I 106:=Yf h.code hg
theorem Zg.ju (h:Zg w p s) {g:Nat} (hg:p.vn.ownBlock=I g):Xt w g=I 51:=Yf h.qd.2 hg
theorem Zg.jv (h:Zg w p s) {g:Nat} (hg:p.vk.ownBlock=I g):Xt w g=I 3:=Yf h.calls.2 hg
theorem Zg.jg (h:Zg w p s) {g:Nat} (hg:p.vo.ownBlock=I g):Xt w g=I 51:=Yf h.out hg
theorem Zg.ja (h:Zg w p s) {g:Nat} (hg:p.vr.ownBlock=I g):Xt w g=I 53:=Yf h.reads hg
theorem Zg.j5 (h:Zg w p s) {g:Nat} (hg:p.vb.ownBlock=I g):Xt w g=I 3:=Yf h.buf.row hg
theorem Zy {a b:Nat} {t t':Option TypeId} (ha:Xt w a=t) (hb:Xt w b=t') (h:t≠t'):a≠b:=λ e=>h (by rw [<-ha,<-hb,e])
theorem Y3 {k:Nat}:k∈p.blocks↔k=p.mb\/k=p.nb\/k=p.kb\/k=p.bb\/k=p.pb\/p.vc.ownBlock=I k\/p.vn.ownBlock=I k\/p.vk.ownBlock=I k\/p.vo.ownBlock=I k\/p.vr.ownBlock=I k\/p.vb.ownBlock=I k:=by
 unfold MP.blocks;simp [Option.mem_toList]
theorem Zg.lt (h:Zg w p s) {k:Nat} (hk:k∈p.blocks):k < w.heap.size:=by
 rw [Y3] at hk;rcases hk with rfl|rfl|rfl|rfl|rfl|hk|hk|hk|hk|hk|hk
 ·exact B9 h.hd
 ·exact B9 h.qd.1
 ·exact B9 h.calls.1
 ·exact B9 h.buf.hd
 ·exact h.buf.map.lt
 ·exact Yr h.code hk
 ·exact Yr h.qd.2 hk
 ·exact Yr h.calls.2 hk
 ·exact Yr h.out hk
 ·exact Yr h.reads hk
 ·exact Yr h.buf.row hk
theorem Zg.mod (h:Zg w p s) (m:Ze S w w') (hS:∀ k∈p.blocks,k∉S):Zg w' p s:=by
 have q:∀ k,(k=p.mb\/k=p.nb\/k=p.kb\/k=p.bb\/k=p.pb\/p.vc.ownBlock=I k\/p.vn.ownBlock=I k\/p.vk.ownBlock=I k\/p.vo.ownBlock=I k\/p.vr.ownBlock=I k\/p.vb.ownBlock=I k)->k∉S:=λ k hk=>hS k (Y3.2 hk);exact ⟨m.at h.hd (q _ (by simp)),Zt h.code m (λ g hg=>q g (by simp [hg])),h.qd.mod m (q _ (by simp)) (λ g hg=>q g (by simp [hg])),h.calls.mod m (q _ (by simp)) (λ g hg=>q g (by simp [hg])),
  Zt h.out m (λ g hg=>q g (by simp [hg])),Zt h.reads m (λ g hg=>q g (by simp [hg])),h.buf.mod m (q _ (by simp)) (q _ (by simp)) (λ g hg=>q g (by simp [hg])),h.uu,h.ur⟩
theorem Zg.drewN (h:Zg w p s) (n:Nat):Zg (w.drewN n) p s:=h.mod ((Zr_ [] w).drewN n) (by simp)
theorem Zg.alloc (h:Zg w p s) (o:Obj):Zg (w.alloc o) p s:=h.mod ((Zr_ [] w).alloc o) (by simp)
structure Dt (w:W) (p:MP) (w':W) (p':MP):Prop where
 md:Ze p.blocks w w'
 gr:∀ k∈p'.blocks,k∈p.blocks\/w.heap.size<=k
 mb:p'.mb=p.mb
theorem Dt.refl (w:W) (p:MP):Dt w p w p:=⟨Zr_ _ _,λ _ hk=>.inl hk,J⟩
theorem Dt.trans {a b c:W} {p q r:MP} (h:Dt a p b q) (k:Dt b q c r):Dt a p c r:=
 ⟨h.md.then k.md h.gr,λ i hi=>(k.gr i hi).elim (h.gr i) (λ hs=>.inr (Nat.le_trans h.md.size hs)),k.mb.trans h.mb⟩
theorem Dt.of {a b:W} (m:Ze S a b) (hS:∀ k∈S,k∈p.blocks\/a.heap.size<=k):Dt a p b p:=⟨m.mono hS,λ _ hk=>.inl hk,J⟩
theorem Dt.fresh {a b:W} (m:Ze [] a b):Dt a p b p:=.of m (by simp)
theorem Zg.n_mb (h:Zg w p s):p.mb∉p.nb :: p.vn.ownBlock.toList:=Nn_ (λ hb=>Zy (h.zk) (h.jh) (by decide) hb) λ hb=>Zy (h.zk) (h.ju hb) (by decide) J
theorem Zg.n_kb (h:Zg w p s):p.kb∉p.nb :: p.vn.ownBlock.toList:=Nn_ (λ hb=>Zy (h.ji) (h.jh) (by decide) hb) λ hb=>Zy (h.ji) (h.ju hb) (by decide) J
theorem Zg.n_bb (h:Zg w p s):p.bb∉p.nb :: p.vn.ownBlock.toList:=Nn_ (λ hb=>Zy (h.jx) (h.jh) (by decide) hb) λ hb=>Zy (h.jx) (h.ju hb) (by decide) J
theorem Zg.n_pb (h:Zg w p s):p.pb∉p.nb :: p.vn.ownBlock.toList:=Nn_ (λ hb=>Zy (h.jw) (h.jh) (by decide) hb) λ hb=>Zy (h.jw) (h.ju hb) (by decide) J
theorem Zg.n_vc (h:Zg w p s) {g:Nat} (hg:p.vc.ownBlock=I g):g∉p.nb :: p.vn.ownBlock.toList:=Nn_ (λ hb=>Zy (h.vx hg) (h.jh) (by decide) hb) λ hb=>Zy (h.vx hg) (h.ju hb) (by decide) J
theorem Zg.n_vk (h:Zg w p s) {g:Nat} (hg:p.vk.ownBlock=I g):g∉p.nb :: p.vn.ownBlock.toList:=Nn_ (λ hb=>Zy (h.jv hg) (h.jh) (by decide) hb) λ hb=>Zy (h.jv hg) (h.ju hb) (by decide) J
theorem Zg.n_vo (h:Zg w p s) {g:Nat} (hg:p.vo.ownBlock=I g):g∉p.nb :: p.vn.ownBlock.toList:=Nn_ (λ hb=>Zy (h.jg hg) (h.jh) (by decide) hb) λ hb=>absurd hg (h.uu _ hb)
theorem Zg.n_vr (h:Zg w p s) {g:Nat} (hg:p.vr.ownBlock=I g):g∉p.nb :: p.vn.ownBlock.toList:=Nn_ (λ hb=>Zy (h.ja hg) (h.jh) (by decide) hb) λ hb=>Zy (h.ja hg) (h.ju hb) (by decide) J
theorem Zg.n_vb (h:Zg w p s) {g:Nat} (hg:p.vb.ownBlock=I g):g∉p.nb :: p.vn.ownBlock.toList:=Nn_ (λ hb=>Zy (h.j5 hg) (h.jh) (by decide) hb) λ hb=>Zy (h.j5 hg) (h.ju hb) (by decide) J
theorem Zg.k_mb (h:Zg w p s):p.mb∉p.kb :: p.vk.ownBlock.toList:=Nn_ (λ hb=>Zy (h.zk) (h.ji) (by decide) hb) λ hb=>Zy (h.zk) (h.jv hb) (by decide) J
theorem Zg.k_nb (h:Zg w p s):p.nb∉p.kb :: p.vk.ownBlock.toList:=Nn_ (λ hb=>Zy (h.jh) (h.ji) (by decide) hb) λ hb=>Zy (h.jh) (h.jv hb) (by decide) J
theorem Zg.k_bb (h:Zg w p s):p.bb∉p.kb :: p.vk.ownBlock.toList:=Nn_ (λ hb=>Zy (h.jx) (h.ji) (by decide) hb) λ hb=>Zy (h.jx) (h.jv hb) (by decide) J
theorem Zg.k_pb (h:Zg w p s):p.pb∉p.kb :: p.vk.ownBlock.toList:=Nn_ (λ hb=>Zy (h.jw) (h.ji) (by decide) hb) λ hb=>Zy (h.jw) (h.jv hb) (by decide) J
theorem Zg.k_vc (h:Zg w p s) {g:Nat} (hg:p.vc.ownBlock=I g):g∉p.kb :: p.vk.ownBlock.toList:=Nn_ (λ hb=>Zy (h.vx hg) (h.ji) (by decide) hb) λ hb=>Zy (h.vx hg) (h.jv hb) (by decide) J
theorem Zg.k_vn (h:Zg w p s) {g:Nat} (hg:p.vn.ownBlock=I g):g∉p.kb :: p.vk.ownBlock.toList:=Nn_ (λ hb=>Zy (h.ju hg) (h.ji) (by decide) hb) λ hb=>Zy (h.ju hg) (h.jv hb) (by decide) J
theorem Zg.k_vo (h:Zg w p s) {g:Nat} (hg:p.vo.ownBlock=I g):g∉p.kb :: p.vk.ownBlock.toList:=Nn_ (λ hb=>Zy (h.jg hg) (h.ji) (by decide) hb) λ hb=>Zy (h.jg hg) (h.jv hb) (by decide) J
theorem Zg.k_vr (h:Zg w p s) {g:Nat} (hg:p.vr.ownBlock=I g):g∉p.kb :: p.vk.ownBlock.toList:=Nn_ (λ hb=>Zy (h.ja hg) (h.ji) (by decide) hb) λ hb=>Zy (h.ja hg) (h.jv hb) (by decide) J
theorem Zg.k_vb (h:Zg w p s) {g:Nat} (hg:p.vb.ownBlock=I g):g∉p.kb :: p.vk.ownBlock.toList:=Nn_ (λ hb=>Zy (h.j5 hg) (h.ji) (by decide) hb) λ hb=>absurd hg (h.ur _ hb)
theorem Zg.b_mb (h:Zg w p s):p.mb∉p.bb :: p.pb :: p.vb.ownBlock.toList:=by
 intro hm;simp only [List.mem_cons,Option.mem_toList] at hm;rcases hm with hb|hb|hb
 ·exact Zy (h.zk) (h.jx) (by decide) hb
 ·exact Zy (h.zk) (h.jw) (by decide) hb
 ·exact Zy (h.zk) (h.j5 hb) (by decide) J
theorem Zg.b_nb (h:Zg w p s):p.nb∉p.bb :: p.pb :: p.vb.ownBlock.toList:=by
 intro hm;simp only [List.mem_cons,Option.mem_toList] at hm;rcases hm with hb|hb|hb
 ·exact Zy (h.jh) (h.jx) (by decide) hb
 ·exact Zy (h.jh) (h.jw) (by decide) hb
 ·exact Zy (h.jh) (h.j5 hb) (by decide) J
theorem Zg.b_kb (h:Zg w p s):p.kb∉p.bb :: p.pb :: p.vb.ownBlock.toList:=by
 intro hm;simp only [List.mem_cons,Option.mem_toList] at hm;rcases hm with hb|hb|hb
 ·exact Zy (h.ji) (h.jx) (by decide) hb
 ·exact Zy (h.ji) (h.jw) (by decide) hb
 ·exact Zy (h.ji) (h.j5 hb) (by decide) J
theorem Zg.b_vc (h:Zg w p s) {g:Nat} (hg:p.vc.ownBlock=I g):g∉p.bb :: p.pb :: p.vb.ownBlock.toList:=by
 intro hm;simp only [List.mem_cons,Option.mem_toList] at hm;rcases hm with hb|hb|hb
 ·exact Zy (h.vx hg) (h.jx) (by decide) hb
 ·exact Zy (h.vx hg) (h.jw) (by decide) hb
 ·exact Zy (h.vx hg) (h.j5 hb) (by decide) J
theorem Zg.b_vn (h:Zg w p s) {g:Nat} (hg:p.vn.ownBlock=I g):g∉p.bb :: p.pb :: p.vb.ownBlock.toList:=by
 intro hm;simp only [List.mem_cons,Option.mem_toList] at hm;rcases hm with hb|hb|hb
 ·exact Zy (h.ju hg) (h.jx) (by decide) hb
 ·exact Zy (h.ju hg) (h.jw) (by decide) hb
 ·exact Zy (h.ju hg) (h.j5 hb) (by decide) J
theorem Zg.b_vk (h:Zg w p s) {g:Nat} (hg:p.vk.ownBlock=I g):g∉p.bb :: p.pb :: p.vb.ownBlock.toList:=by
 intro hm;simp only [List.mem_cons,Option.mem_toList] at hm;rcases hm with hb|hb|hb
 ·exact Zy (h.jv hg) (h.jx) (by decide) hb
 ·exact Zy (h.jv hg) (h.jw) (by decide) hb
 ·exact absurd hb (h.ur _ hg)
theorem Zg.b_vo (h:Zg w p s) {g:Nat} (hg:p.vo.ownBlock=I g):g∉p.bb :: p.pb :: p.vb.ownBlock.toList:=by
 intro hm;simp only [List.mem_cons,Option.mem_toList] at hm;rcases hm with hb|hb|hb
 ·exact Zy (h.jg hg) (h.jx) (by decide) hb
 ·exact Zy (h.jg hg) (h.jw) (by decide) hb
 ·exact Zy (h.jg hg) (h.j5 hb) (by decide) J
theorem Zg.b_vr (h:Zg w p s) {g:Nat} (hg:p.vr.ownBlock=I g):g∉p.bb :: p.pb :: p.vb.ownBlock.toList:=by
 intro hm;simp only [List.mem_cons,Option.mem_toList] at hm;rcases hm with hb|hb|hb
 ·exact Zy (h.ja hg) (h.jx) (by decide) hb
 ·exact Zy (h.ja hg) (h.jw) (by decide) hb
 ·exact Zy (h.ja hg) (h.j5 hb) (by decide) J
theorem Zg.o_nb (h:Zg w p s):p.nb∉p.mb :: p.vo.ownBlock.toList:=Nn_ (λ hb=>Zy (h.jh) (h.zk) (by decide) hb) λ hb=>Zy (h.jh) (h.jg hb) (by decide) J
theorem Zg.o_kb (h:Zg w p s):p.kb∉p.mb :: p.vo.ownBlock.toList:=Nn_ (λ hb=>Zy (h.ji) (h.zk) (by decide) hb) λ hb=>Zy (h.ji) (h.jg hb) (by decide) J
theorem Zg.o_bb (h:Zg w p s):p.bb∉p.mb :: p.vo.ownBlock.toList:=Nn_ (λ hb=>Zy (h.jx) (h.zk) (by decide) hb) λ hb=>Zy (h.jx) (h.jg hb) (by decide) J
theorem Zg.o_pb (h:Zg w p s):p.pb∉p.mb :: p.vo.ownBlock.toList:=Nn_ (λ hb=>Zy (h.jw) (h.zk) (by decide) hb) λ hb=>Zy (h.jw) (h.jg hb) (by decide) J
theorem Zg.o_vc (h:Zg w p s) {g:Nat} (hg:p.vc.ownBlock=I g):g∉p.mb :: p.vo.ownBlock.toList:=Nn_ (λ hb=>Zy (h.vx hg) (h.zk) (by decide) hb) λ hb=>Zy (h.vx hg) (h.jg hb) (by decide) J
theorem Zg.o_vn (h:Zg w p s) {g:Nat} (hg:p.vn.ownBlock=I g):g∉p.mb :: p.vo.ownBlock.toList:=Nn_ (λ hb=>Zy (h.ju hg) (h.zk) (by decide) hb) λ hb=>absurd hb (h.uu _ hg)
theorem Zg.o_vk (h:Zg w p s) {g:Nat} (hg:p.vk.ownBlock=I g):g∉p.mb :: p.vo.ownBlock.toList:=Nn_ (λ hb=>Zy (h.jv hg) (h.zk) (by decide) hb) λ hb=>Zy (h.jv hg) (h.jg hb) (by decide) J
theorem Zg.o_vr (h:Zg w p s) {g:Nat} (hg:p.vr.ownBlock=I g):g∉p.mb :: p.vo.ownBlock.toList:=Nn_ (λ hb=>Zy (h.ja hg) (h.zk) (by decide) hb) λ hb=>Zy (h.ja hg) (h.jg hb) (by decide) J
theorem Zg.o_vb (h:Zg w p s) {g:Nat} (hg:p.vb.ownBlock=I g):g∉p.mb :: p.vo.ownBlock.toList:=Nn_ (λ hb=>Zy (h.j5 hg) (h.zk) (by decide) hb) λ hb=>Zy (h.j5 hg) (h.jg hb) (by decide) J
theorem Zg.r_nb (h:Zg w p s):p.nb∉p.mb :: p.vr.ownBlock.toList:=Nn_ (λ hb=>Zy (h.jh) (h.zk) (by decide) hb) λ hb=>Zy (h.jh) (h.ja hb) (by decide) J
theorem Zg.r_kb (h:Zg w p s):p.kb∉p.mb :: p.vr.ownBlock.toList:=Nn_ (λ hb=>Zy (h.ji) (h.zk) (by decide) hb) λ hb=>Zy (h.ji) (h.ja hb) (by decide) J
theorem Zg.r_bb (h:Zg w p s):p.bb∉p.mb :: p.vr.ownBlock.toList:=Nn_ (λ hb=>Zy (h.jx) (h.zk) (by decide) hb) λ hb=>Zy (h.jx) (h.ja hb) (by decide) J
theorem Zg.r_pb (h:Zg w p s):p.pb∉p.mb :: p.vr.ownBlock.toList:=Nn_ (λ hb=>Zy (h.jw) (h.zk) (by decide) hb) λ hb=>Zy (h.jw) (h.ja hb) (by decide) J
theorem Zg.r_vc (h:Zg w p s) {g:Nat} (hg:p.vc.ownBlock=I g):g∉p.mb :: p.vr.ownBlock.toList:=Nn_ (λ hb=>Zy (h.vx hg) (h.zk) (by decide) hb) λ hb=>Zy (h.vx hg) (h.ja hb) (by decide) J
theorem Zg.r_vn (h:Zg w p s) {g:Nat} (hg:p.vn.ownBlock=I g):g∉p.mb :: p.vr.ownBlock.toList:=Nn_ (λ hb=>Zy (h.ju hg) (h.zk) (by decide) hb) λ hb=>Zy (h.ju hg) (h.ja hb) (by decide) J
theorem Zg.r_vk (h:Zg w p s) {g:Nat} (hg:p.vk.ownBlock=I g):g∉p.mb :: p.vr.ownBlock.toList:=Nn_ (λ hb=>Zy (h.jv hg) (h.zk) (by decide) hb) λ hb=>Zy (h.jv hg) (h.ja hb) (by decide) J
theorem Zg.r_vo (h:Zg w p s) {g:Nat} (hg:p.vo.ownBlock=I g):g∉p.mb :: p.vr.ownBlock.toList:=Nn_ (λ hb=>Zy (h.jg hg) (h.zk) (by decide) hb) λ hb=>Zy (h.jg hg) (h.ja hb) (by decide) J
theorem Zg.r_vb (h:Zg w p s) {g:Nat} (hg:p.vb.ownBlock=I g):g∉p.mb :: p.vr.ownBlock.toList:=Nn_ (λ hb=>Zy (h.j5 hg) (h.zk) (by decide) hb) λ hb=>Zy (h.j5 hg) (h.ja hb) (by decide) J
theorem Zg.m_nb (h:Zg w p s):p.nb∉[p.mb]:=by
 intro hm;simp only [List.mem_cons,or_false,List.not_mem_nil] at hm;have hb:=hm
 ·exact Zy (h.jh) (h.zk) (by decide) hb
theorem Zg.m_kb (h:Zg w p s):p.kb∉[p.mb]:=by
 intro hm;simp only [List.mem_cons,or_false,List.not_mem_nil] at hm;have hb:=hm
 ·exact Zy (h.ji) (h.zk) (by decide) hb
theorem Zg.m_bb (h:Zg w p s):p.bb∉[p.mb]:=by
 intro hm;simp only [List.mem_cons,or_false,List.not_mem_nil] at hm;have hb:=hm
 ·exact Zy (h.jx) (h.zk) (by decide) hb
theorem Zg.m_pb (h:Zg w p s):p.pb∉[p.mb]:=by
 intro hm;simp only [List.mem_cons,or_false,List.not_mem_nil] at hm;have hb:=hm
 ·exact Zy (h.jw) (h.zk) (by decide) hb
theorem Zg.m_vc (h:Zg w p s) {g:Nat} (hg:p.vc.ownBlock=I g):g∉[p.mb]:=by
 intro hm;simp only [List.mem_cons,or_false,List.not_mem_nil] at hm;have hb:=hm
 ·exact Zy (h.vx hg) (h.zk) (by decide) hb
theorem Zg.m_vn (h:Zg w p s) {g:Nat} (hg:p.vn.ownBlock=I g):g∉[p.mb]:=by
 intro hm;simp only [List.mem_cons,or_false,List.not_mem_nil] at hm;have hb:=hm
 ·exact Zy (h.ju hg) (h.zk) (by decide) hb
theorem Zg.m_vk (h:Zg w p s) {g:Nat} (hg:p.vk.ownBlock=I g):g∉[p.mb]:=by
 intro hm;simp only [List.mem_cons,or_false,List.not_mem_nil] at hm;have hb:=hm
 ·exact Zy (h.jv hg) (h.zk) (by decide) hb
theorem Zg.m_vo (h:Zg w p s) {g:Nat} (hg:p.vo.ownBlock=I g):g∉[p.mb]:=by
 intro hm;simp only [List.mem_cons,or_false,List.not_mem_nil] at hm;have hb:=hm
 ·exact Zy (h.jg hg) (h.zk) (by decide) hb
theorem Zg.m_vr (h:Zg w p s) {g:Nat} (hg:p.vr.ownBlock=I g):g∉[p.mb]:=by
 intro hm;simp only [List.mem_cons,or_false,List.not_mem_nil] at hm;have hb:=hm
 ·exact Zy (h.ja hg) (h.zk) (by decide) hb
theorem Zg.m_vb (h:Zg w p s) {g:Nat} (hg:p.vb.ownBlock=I g):g∉[p.mb]:=by
 intro hm;simp only [List.mem_cons,or_false,List.not_mem_nil] at hm;have hb:=hm
 ·exact Zy (h.j5 hg) (h.zk) (by decide) hb
theorem Zg.kx (h:Zg w p s) {vn:Value} {xs:List Nat} (hs:U1 w' p.nb vn 64 xs) (ho:Jn w p.vn vn) (m:Ze (p.nb :: p.vn.ownBlock.toList) w w'):
  Zg w' {p with vn:=vn} {s with qd:=xs}/\Dt w p w' {p with vn:=vn}:=by
 refine ⟨⟨m.at h.hd h.n_mb,Zt h.code m λ g hg=>h.n_vc hg,hs,h.calls.mod m h.n_kb λ g hg=>h.n_vk hg,Zt h.out m λ g hg=>h.n_vo hg,Zt h.reads m λ g hg=>h.n_vr hg,h.buf.mod m h.n_bb h.n_pb λ g hg=>h.n_vb hg,?_,h.ur⟩,⟨m.mono ?_,?_,J⟩⟩
 ·intro g hg hg';rcases ho with e|⟨q,e,hq⟩
  ·exact h.uu g (by rw [<-e];exact hg) hg'
  ·rw [e] at hg;obtain rfl:=Zo_ hg;have:=Yr h.out hg';omega
 ·intro x hx;left;rw [Y3];simp only [List.mem_cons,Option.mem_toList] at hx;rcases hx with rfl|hx <;> simp [*]
 ·intro k hk;rw [Y3] at hk ⊢
  simp only at hk;rcases ho with e|⟨q,e,hq⟩
  ·rw [e] at hk;exact .inl hk
  ·rw [e] at hk;rcases hk with hk|hk|hk|hk|hk|hk|hk|hk|hk|hk|hk
   all_goals first|exact .inr (by have:=Zo_ hk;omega)|simp [hk]
theorem Zg.wm (h:Zg w p s) {vk:Value} {xs:List Int} (hs:U0 w' p.kb vk 16 xs) (ho:Jn w p.vk vk) (m:Ze (p.kb :: p.vk.ownBlock.toList) w w'):
  Zg w' {p with vk:=vk} {s with calls:=xs}/\Dt w p w' {p with vk:=vk}:=by
 refine ⟨⟨m.at h.hd h.k_mb,Zt h.code m λ g hg=>h.k_vc hg,h.qd.mod m h.k_nb λ g hg=>h.k_vn hg,hs,Zt h.out m λ g hg=>h.k_vo hg,Zt h.reads m λ g hg=>h.k_vr hg,h.buf.mod m h.k_bb h.k_pb λ g hg=>h.k_vb hg,h.uu,?_⟩,⟨m.mono ?_,?_,J⟩⟩
 ·intro g hg hg';rcases ho with e|⟨q,e,hq⟩
  ·exact h.ur g (by rw [<-e];exact hg) hg'
  ·rw [e] at hg;obtain rfl:=Zo_ hg;have:=Yr h.buf.row hg';omega
 ·intro x hx;left;rw [Y3];simp only [List.mem_cons,Option.mem_toList] at hx;rcases hx with rfl|hx <;> simp [*]
 ·intro k hk;rw [Y3] at hk ⊢
  simp only at hk;rcases ho with e|⟨q,e,hq⟩
  ·rw [e] at hk;exact .inl hk
  ·rw [e] at hk;rcases hk with hk|hk|hk|hk|hk|hk|hk|hk|hk|hk|hk
   all_goals first|exact .inr (by have:=Zo_ hk;omega)|simp [hk]
theorem Zg.yu (h:Zg w p s) {vb:Value} {b:Xc} (hs:V3 w' p.bb p.pb vb b) (ho:Jn w p.vb vb) (m:Ze (p.bb :: p.pb :: p.vb.ownBlock.toList) w w'):
  Zg w' {p with vb:=vb} {s with buf:=b}/\Dt w p w' {p with vb:=vb}:=by
 refine ⟨⟨m.at h.hd h.b_mb,Zt h.code m λ g hg=>h.b_vc hg,h.qd.mod m h.b_nb λ g hg=>h.b_vn hg,h.calls.mod m h.b_kb λ g hg=>h.b_vk hg,Zt h.out m λ g hg=>h.b_vo hg,Zt h.reads m λ g hg=>h.b_vr hg,hs,h.uu,?_⟩,⟨m.mono ?_,?_,J⟩⟩
 ·intro g hg hg';rcases ho with e|⟨q,e,hq⟩
  ·exact h.ur g hg (by rw [<-e];exact hg')
  ·rw [e] at hg';obtain rfl:=Zo_ hg';have:=Yr h.calls.2 hg;omega
 ·intro x hx;left;rw [Y3];simp only [List.mem_cons,Option.mem_toList] at hx;rcases hx with rfl|rfl|hx <;> simp [*]
 ·intro k hk;rw [Y3] at hk ⊢
  simp only at hk;rcases ho with e|⟨q,e,hq⟩
  ·rw [e] at hk;exact .inl hk
  ·rw [e] at hk;rcases hk with hk|hk|hk|hk|hk|hk|hk|hk|hk|hk|hk
   all_goals first|exact .inr (by have:=Zo_ hk;omega)|simp [hk]
theorem Zg.j6 (h:Zg w p s) (m:Ze [p.mb] w w') (hd:w'.heap[p.mb]? =I (.cells (Q6 p s') 185 (0,0))) (e1:s'.code=s.code) (e2:s'.qd=s.qd) (e3:s'.calls=s.calls) (e4:s'.out=s.out) (e5:s'.reads=s.reads) (e6:s'.buf=s.buf):Zg w' p s'/\Dt w p w' p:=by
 refine ⟨⟨hd,?_,?_,?_,?_,?_,?_,h.uu,h.ur⟩,.of m (by simp [Y3])⟩
 ·rw [e1];exact Zt h.code m λ g hg=>h.m_vc hg
 ·rw [e2];exact h.qd.mod m h.m_nb λ g hg=>h.m_vn hg
 ·rw [e3];exact h.calls.mod m h.m_kb λ g hg=>h.m_vk hg
 ·rw [e4];exact Zt h.out m λ g hg=>h.m_vo hg
 ·rw [e5];exact Zt h.reads m λ g hg=>h.m_vr hg
 ·rw [e6];exact h.buf.mod m h.m_bb h.m_pb λ g hg=>h.m_vb hg
theorem Zg.xz (h:Zg w p s) (i:Nat) (u:Value) (hc:(Q6 p s).setIfInBounds i u=Q6 p s') (e1:s'.code=s.code) (e2:s'.qd=s.qd) (e3:s'.calls=s.calls) (e4:s'.out=s.out) (e5:s'.reads=s.reads) (e6:s'.buf=s.buf):
  Zg (w.setCell ⟨p.mb,i,O⟩ u) p s'/\Dt w p (w.setCell ⟨p.mb,i,O⟩ u) p:=
 h.j6 ((Zr_ _ _).setCell _ _ (.inl (by simp))) (by rw [<-hc];exact Zd _ h.hd) e1 e2 e3 e4 e5 e6
theorem Zg.cell (h:Zg w p s) (i:Nat) {u:Value} (hu:(Q6 p s)[i]? =I u):w.cell? ⟨p.mb,i,O⟩=I u/\w.frozen? ⟨p.mb,i,O⟩=false:=
 ⟨Za h.hd hu,Zb h.hd⟩
theorem Zg.ox (h:Zg w p s) {w1:W} {vo:Value} {xs:List Nat} (hs:w1.ownsRow 0 51 1 vo xs.length (xs.map (Z V))) (ho:Jn w p.vo vo) (m:Ze p.vo.ownBlock.toList w w1):
  Zg (w1.setCell ⟨p.mb,32,O⟩ vo) {p with vo:=vo} {s with out:=xs}/\Dt w p (w1.setCell ⟨p.mb,32,O⟩ vo) {p with vo:=vo}:=by
 have m2:Ze (p.mb :: p.vo.ownBlock.toList) w (w1.setCell ⟨p.mb,32,O⟩ vo):=(m.mono (λ x hx=>.inl (by simp at hx ⊢;simp [hx]))).setCell _ _ (.inl (by simp));have hmb:p.mb∉p.vo.ownBlock.toList:=λ hm=>Zy h.zk (h.jg (by simpa using hm)) (by decide) J;have hvo:∀ g,vo.ownBlock=I g->g≠p.mb:=λ g hg e=>by
  subst e;have:=Zp (m.at h.hd hmb);rw [Yf hs hg] at this;simp at this
 refine ⟨⟨?_,Zt h.code m2 λ g hg=>h.o_vc hg,h.qd.mod m2 h.o_nb λ g hg=>h.o_vn hg,h.calls.mod m2 h.o_kb λ g hg=>h.o_vk hg,?_,Zt h.reads m2 λ g hg=>h.o_vr hg,h.buf.mod m2 h.o_bb h.o_pb λ g hg=>h.o_vb hg,?_,h.ur⟩,⟨m2.mono ?_,?_,J⟩⟩
 ·exact Zd (i:=32) vo (m.at h.hd hmb)
 ·exact Zt hs ((Zr_ [p.mb] w1).setCell ⟨p.mb,32,O⟩ vo (.inl (by simp))) (λ g hg=>by simp [hvo g hg])
 ·intro g hg hg';rcases ho with e|⟨q,e,hq⟩
  ·exact h.uu g hg (by rw [<-e];exact hg')
  ·rw [e] at hg';obtain rfl:=Zo_ hg';have:=Yr h.qd.2 hg;omega
 ·intro x hx;left;rw [Y3];simp only [List.mem_cons,Option.mem_toList] at hx;rcases hx with rfl|hx <;> simp [*]
 ·intro k hk;rw [Y3] at hk ⊢
  simp only at hk;rcases ho with e|⟨q,e,hq⟩
  ·rw [e] at hk;exact .inl hk
  ·rw [e] at hk;rcases hk with hk|hk|hk|hk|hk|hk|hk|hk|hk|hk|hk
   all_goals first|exact .inr (by have:=Zo_ hk;omega)|simp [hk]
theorem Zg.wk (h:Zg w p s) {w1:W} {vr:Value} {xs:List (Int×Nat)} (hs:w1.ownsRow 0 53 2 vr xs.length (Yj xs)) (ho:Jn w p.vr vr) (m:Ze p.vr.ownBlock.toList w w1):
  Zg (w1.setCell ⟨p.mb,33,O⟩ vr) {p with vr:=vr} {s with reads:=xs}/\Dt w p (w1.setCell ⟨p.mb,33,O⟩ vr) {p with vr:=vr}:=by
 have m2:Ze (p.mb :: p.vr.ownBlock.toList) w (w1.setCell ⟨p.mb,33,O⟩ vr):=(m.mono (λ x hx=>.inl (by simp at hx ⊢;simp [hx]))).setCell _ _ (.inl (by simp));have hmb:p.mb∉p.vr.ownBlock.toList:=λ hm=>Zy h.zk (h.ja (by simpa using hm)) (by decide) J;have hvr:∀ g,vr.ownBlock=I g->g≠p.mb:=λ g hg e=>by
  subst e;have:=Zp (m.at h.hd hmb);rw [Yf hs hg] at this;simp at this
 refine ⟨⟨?_,Zt h.code m2 λ g hg=>h.r_vc hg,h.qd.mod m2 h.r_nb λ g hg=>h.r_vn hg,h.calls.mod m2 h.r_kb λ g hg=>h.r_vk hg,Zt h.out m2 λ g hg=>h.r_vo hg,?_,h.buf.mod m2 h.r_bb h.r_pb λ g hg=>h.r_vb hg,h.uu,h.ur⟩,⟨m2.mono ?_,?_,J⟩⟩
 ·exact Zd (i:=33) vr (m.at h.hd hmb)
 ·exact Zt hs ((Zr_ [p.mb] w1).setCell ⟨p.mb,33,O⟩ vr (.inl (by simp))) (λ g hg=>by simp [hvr g hg])
 ·intro x hx;left;rw [Y3];simp only [List.mem_cons,Option.mem_toList] at hx;rcases hx with rfl|hx <;> simp [*]
 ·intro k hk;rw [Y3] at hk ⊢
  simp only at hk;rcases ho with e|⟨q,e,hq⟩
  ·rw [e] at hk;exact .inl hk
  ·rw [e] at hk;rcases hk with hk|hk|hk|hk|hk|hk|hk|hk|hk|hk|hk
   all_goals first|exact .inr (by have:=Zo_ hk;omega)|simp [hk]
end
section
attribute [local go_sem] Zi
structure Xh where
 kind:Int
 cell:Int
 x:Nat
 first:Bool
def Xh.val (a:Xh):Value:=A9 #[.int .i64 a.kind,.int .i64 a.cell,Z V a.x,.bool a.first]
def Z1 (k:Int):Xh:=⟨k,0,0,false⟩
def Zk.ends (s:Zk) (h c e:Int):Zk:={s with qq:=h,qn:=c,zd:=e}
def Zk.push (s:Zk) (x:Nat):Zk:={s with qd:=s.qd++[x]}
def Zk.pop (s:Zk):Zk:={s with qd:=s.qd.dropLast}
def Zk.pick (s:Zk) (n:Nat):Nat:=s.qd.getD (s.qd.length - 1 - n) 0
def Zk.top (s:Zk):Nat:=s.pick 0
def Ud (x:Nat):Bool:=!Ft x&&(FloatKind.f64.format.order x 0 !=I .eq)
def Vu (f:Nat->Nat) (k v:Nat):Nat->Nat:=λ i=>if i=k then v else f i
def Zk.reckon (v:Nat) (i:Xg) (s:Zk):Zk:=
 if i.op=1 then s.push (Zq i.x)
 else if i.op=2 then s.pop
 else if i.op=3 then s.push s.top
 else if i.op=4 then (s.pop.pop.push s.top).push s.pop.top
 else if i.op=5 then s.push (s.pick i.n.toNat)
 else if i.op=6 then s.push (s.args i.n.toNat)
 else if i.op=7 then s.push (s.locals i.n.toNat)
 else if i.op=8 then {s.pop with locals:=Vu s.locals i.n.toNat s.top}
 else if i.op=9 then s.pop.push (Zq v)
 else if i.op=10 then s.pop.pop.push (J9 i.n (Zq s.pop.top) (Zq s.top) v)
 else if i.op=18 then {s.pop with out:=s.out++[s.top]}
 else s
def Zk.zx (s:Zk):Except Int (Zk×Xh):=
 match Vf s.top s.c0 with
 |none=>.error 50
 |some c=>if s.buf.known c=true then .ok ({(s.pop.push (s.buf.val c)) with reads:=s.reads++[(c,s.buf.val c)]},⟨2,c,s.buf.val c,false⟩)
  else .ok ({s.pop with waits:=true,cell:=c},⟨1,c,0,false⟩)
def Zk.zh (s:Zk):Except Int (Zk×Xh):=
 if s.tag≠2 then .error 81 else
 match Vf s.top s.c0 with
 |none=>.error 50
 |some c=>if s.buf.known c=false/\(s.buf.order.length:Int)=s.buf.qy then .error 70
  else .ok ({s.pop.pop with buf:=s.buf.put c (s.pick 1)},⟨3,c,s.pick 1,!s.buf.known c⟩)
def Zk.xt (v:Nat) (i:Xg) (s:Zk):Except Int (Zk×Xh):=
 if i.op=16 then s.zx
 else if i.op=17 then s.zh
 else if i.op=19 then .ok (s.ends 2 i.n 0,Z1 4)
 else if i.op=20 then .ok (s.ends 1 0 0,Z1 4)
 else if i.op=11 then .ok ({s with place:=i.n},Z1 0)
 else if i.op=12\/i.op=13 then .ok ({s.pop with place:=if Ud s.top=(i.op==12) then i.n else s.place},Z1 0)
 else if i.op=14 then .ok ({s with calls:=s.calls++[s.place],place:=i.n},Z1 0)
 else if i.op=15 then (match s.calls.getLast? with
  |none=>.ok (s.ends 1 0 0,Z1 4)
  |some at_=>.ok ({s with calls:=s.calls.dropLast,place:=at_},Z1 0))
 else .ok (s.reckon v i,Z1 0)
def U9 (i:Xg):Int:=if i.op=5 then i.n+1 else Xe i.op
def Zk.qt (s:Zk) (i:Xg):Bool:=
 !((decide ((s.qd.length:Int) < U9 i) || decide (64 < (s.qd.length:Int) - Xe i.op+Qr i.op)) || (i.op==14&&((s.calls.length:Int)==16)))
def Vw:Xg:=⟨0,0,0⟩
def Zk.at (s:Zk):Xg:=s.code.getD s.place.toNat Vw
def Zk.next (s:Zk):Zk:={s with used:=s.used+1,place:=s.place+1}
def Zk.fault (s:Zk) (e:Int):Zk×Xh:=(s.ends 3 0 e,Z1 4)
def Zk.go (s:Zk) (v:Nat):Zk×Xh:=
 if s.next.qt s.at=false then s.next.fault 82 else
 match s.next.xt v s.at with
 |.ok r=>r
 |.error e=>s.next.fault e
def Zk.step (s:Zk) (v:Nat):Zk×Xh:=
 if s.waits=true then (s,⟨1,s.cell,0,false⟩)
 else if s.qq≠0 then (s,Z1 4)
 else if s.bad=true then s.fault 50
 else if s.used=s.c2 then s.fault 80
 else if s.place=s.code.length then s.fault 50
 else s.go v
def Zk.xl (s:Zk) (x:Nat):Zk:={(s.push (Zq x)) with reads:=s.reads++[(s.cell,Zq x)],waits:=false}
structure Ym (s:Zk):Prop where
 js:0<=s.used
 xk:s.used<=s.c2
 fuel:s.c2<=1024
 xg:0<=s.place
 xf:s.place<=s.code.length
 qd:s.qd.length<=64
 calls:s.calls.length<=16
 call:∀ c∈s.calls,0<=c/\c<=s.code.length
 out:(s.out.length:Int)<=s.used
 reads:(s.reads.length:Int)+(if s.waits=true then 1 else 0)<=s.used
 room:s.waits=true->s.qd.length < 64
 bad:s.bad=!Xl s.tag s.code
 c0:s.c0<=256
 order:∀ k∈s.buf.order,0<=k/\k < 256
theorem Cq {k:Int} (h:0<=k/\k < 256):(Lit.int .i64 k).wf=true:=by
 show (decide (IntKind.i64.min<=k)&&decide (k<=IntKind.i64.max))=true;have e1:IntKind.i64.min=-9223372036854775808:=by decide
 have e2:IntKind.i64.max=9223372036854775807:=by decide
 rw [e1,e2];simp;omega
theorem Cs {l:List Nat} (h:0 < l.length):l=l.dropLast++[l.getD (l.length - 1 - 0) 0]:=by
 cases hl:l.reverse with
 |nil=>simp at hl;subst hl;simp at h
 |cons x t=>
  have:l=t.reverse++[x]:=by rw [<-List.reverse_reverse l,hl];simp
  subst this;simp
end
section
attribute [local go_sem] Zi
variable {w w':W} {p p':MP} {s s':Zk}
def Zl (w:W) (p:MP) (s':Zk) (w':W):Prop:=∃ p',Zg w' p' s'/\Dt w p w' p'
theorem Zl.same (h:Zg w p s):Zl w p s w:=⟨p,h,Dt.refl _ _⟩
theorem Zl.xi {w1:W} (h:Zl w p s w1) (m:Ze [] w1 w'):Zl w p s w':=by
 obtain ⟨q,h1,h2⟩:=h;exact ⟨q,h1.mod m (by simp),h2.trans (.fresh m)⟩
theorem Zl.alloc {w1:W} (h:Zl w p s w1) (o:Obj):Zl w p s (w1.alloc o):=h.xi ((Zr_ _ _).alloc _)
theorem Zl.drew {w1:W} (h:Zl w p s w1):Zl w p s w1.drew:=h.xi ((Zr_ _ _).drew)
theorem Zl.xm {w1:W} (h:Zl w p s w1) (n:Nat):Zl w p s (w1.drewN n):=h.xi ((Zr_ _ _).drewN n)
theorem Zl.xz {w1:W} (h:Zl w p s w1) (i:Nat) (u:Value) (s':Zk) (hc:∀ q:MP,(Q6 q s).setIfInBounds i u=Q6 q s') (e1:s'.code=s.code) (e2:s'.qd=s.qd) (e3:s'.calls=s.calls) (e4:s'.out=s.out) (e5:s'.reads=s.reads) (e6:s'.buf=s.buf):Zl w p s' (w1.setCell ⟨p.mb,i,O⟩ u):=by
 obtain ⟨q,h1,h2⟩:=h;obtain ⟨k1,k2⟩:=h1.xz i u (hc q) e1 e2 e3 e4 e5 e6;rw [h2.mb] at k1 k2;exact ⟨q,k1,h2.trans k2⟩
theorem Zl.size {w1:W} (h:Zl w p s w1):w.heap.size<=w1.heap.size:=by
 obtain ⟨q,h1,h2⟩:=h;exact h2.md.size
theorem Zl.cell {w1:W} (h:Zl w p s w1) (i:Nat) {u:Value} (hu:∀ q,(Q6 q s)[i]? =I u):w1.cell? ⟨p.mb,i,O⟩=I u/\w1.frozen? ⟨p.mb,i,O⟩=false:=by
 obtain ⟨q,h1,h2⟩:=h;rw [<-h2.mb];exact h1.cell i (hu q)
theorem Ja (e:Int) (he:e≠0) (w:W):Calls N 141 #[U Y e] w λ x w'=>x=.panicked [{v:=.iface 235 (U Y e),recovered:=false}]/\w'=w:=by
 have h1:(e !=0)=true:=by simp [he]
 go_enter func141,ntmps141;go_wp2;exact ⟨J,J,J⟩
theorem must_k (w:W):Calls N 141 #[U Y 0] w λ x w'=>x=R9 (.tuple #[])/\w'=w:=by
 go_enter func141,ntmps141;go_wp2;go_end0;exact ⟨J,J⟩
theorem mpush_c (h:Zg w p s) (hl:s.qd.length < 64) (x:Nat):Calls N 145 #[E (I ⟨p.mb,0,O⟩),Z V x] w λ e w'=>e=R9 (.tuple #[])/\Zl w p (s.push x) w':=by
 have r:=(h.cell 23 (u:=E (I ⟨p.nb,0,O⟩)) J).1;go_enter func145,ntmps145;go_wp2_with fail;refine (O5 h.qd (by omega) (by omega) x).mono ?_;rintro e w1 ⟨rfl,v',h1,h2,h3⟩;go_wp2;go_end0;exact ⟨J,_,h.kx h1 h2 h3⟩
theorem mpop_c (h:Zg w p s) (hl:0 < s.qd.length) (hb:s.qd.length<=64):Calls N 164 #[E (I ⟨p.mb,0,O⟩)] w λ e w'=>e=R9 (Z V s.top)/\Zl w p s.pop w':=by
 have r:=(h.cell 23 (u:=E (I ⟨p.nb,0,O⟩)) J).1;have hn:U1 w p.nb p.vn 64 (s.qd.dropLast++[s.top]):=by
  have:=h.qd
  rwa [Cs hl] at this
 go_enter func164,ntmps164;go_wp2_with fail;refine (Cw hn (by simp;omega)).mono ?_;rintro e w1 ⟨rfl,v',h1,h2,h3⟩;go_wp2;go_ret;exact ⟨J,_,h.kx h1 (.inl h2) (h3.mono (by simp))⟩
theorem mends_c (h:Zg w p s) (a b c:Int):Calls N 140 #[E (I ⟨p.mb,0,O⟩),A9 #[U Y a,U Y b,U Y c]] w λ e w'=>e=R9 (Z1 4).val/\Zl w p (s.ends a b c) w':=by
 have hlt:=B9 h.hd;have r29:=(h.cell 29 (u:=U Y s.qq) J).1;have f29:=(h.cell 29 (u:=U Y s.qq) J).2;have r30:=(h.cell 30 (u:=U Y s.qn) J).1;have f30:=(h.cell 30 (u:=U Y s.qn) J).2;have r31:=(h.cell 31 (u:=U Y s.zd) J).1;have f31:=(h.cell 31 (u:=U Y s.zd) J).2;have HH:=Zh_ h;clear h;go_enter func140,ntmps140;go_wp2;refine bodyPost_ret (v:=(Z1 4).val) (by simp [results,results140,go_sem,Z1,Xh.val]) J ⟨J,?_⟩;exact (((((Zl.same HH.out).xz 29 _ {s with qq:=a} (λ _=>J) J J J J J J).xz 30 _ {s with qq:=a,qn:=b} (λ _=>J) J J J J J J).xz 31 _ (s.ends a b c) (λ _=>J) J J J J J J).alloc _).alloc _
theorem Wv (h:Zg w p s) (hl:0 < s.qd.length) (hb:s.qd.length<=64):Calls N 173 #[E (I ⟨p.mb,0,O⟩)] w λ e w'=>(match Vf s.top s.c0 with|some c=>e=R9 (U Y c)|none=>e=.panicked [{v:=.iface 235 (U Y 50),recovered:=false}])/\∃ n,w'=w.drewN n:=by
 have r0:=(h.cell 0 (u:=U Y s.c0) J).1;have r:=(h.cell 23 (u:=E (I ⟨p.nb,0,O⟩)) J).1;obtain ⟨o,ho⟩:∃ o,o=Vf s.top s.c0:=⟨_,J⟩;rw [<-ho];have hp:=V5 h.qd 0 hl (by omega);have hi:=λ w=>idx_c s.top s.c0 w;rw [show s.qd.getD (s.qd.length - 1 - 0) 0=s.top from J] at hp;rw [<-ho] at hi;clear h ho;cases o with
 |none=>
  go_enter func173,ntmps173;go_wp2_with fail;refine hp.mono ?_;rintro e w1 ⟨rfl,n,rfl⟩;go_wp2_with fail;refine (hi _).mono ?_;rintro e w1 ⟨rfl,rfl⟩;go_wp2_with fail;refine (Ja 50 (by decide) _).mono ?_;rintro e w1 ⟨rfl,rfl⟩;go_wp2;exact ⟨J,J,n,J⟩
 |some c=>
  go_enter func173,ntmps173;go_wp2_with fail;refine hp.mono ?_;rintro e w1 ⟨rfl,n,rfl⟩;go_wp2_with fail;refine (hi _).mono ?_;rintro e w1 ⟨rfl,rfl⟩;go_wp2;go_ret;exact ⟨J,n,J⟩
end
section
attribute [local go_sem] Zi
variable {w w':W} {p p':MP} {s s':Zk}
theorem takes_bd (k:Int) (h1:1<=k) (h2:k<=20):0<=Xe k/\Xe k<=2/\0<=Qr k/\Qr k<=2:=by
 rcases (show k=1\/k=2\/k=3\/k=4\/k=5\/k=6\/k=7\/k=8\/k=9\/k=10\/k=11\/k=12\/k=13\/k=14\/k=15\/k=16\/k=17\/k=18\/k=19\/k=20 by omega) with rfl|rfl|rfl|rfl|rfl|rfl|rfl|rfl|rfl|rfl|rfl|rfl|rfl|rfl|rfl|rfl|rfl|rfl|rfl|rfl <;> decide
def ReadyP (b:Bool) (w:W) (e:Ending) (w':W):Prop:=e=(if b=true then R9 (.tuple #[]) else .panicked [{v:=.iface 235 (U Y 82),recovered:=false}])/\Ze [] w w'
theorem ready_c (h:Zg w p s) (op n:Int) (x:Nat) (h1:1<=op) (h2:op<=20) (h5:op=5->0<=n/\n<=63) (hn:s.qd.length<=64) (_:s.calls.length<=16):Calls N 142 #[E (I ⟨p.mb,0,O⟩),A9 #[U Y op,U Y n,Z V x]] w (ReadyP (s.qt ⟨op,n,x⟩) w):=by
 obtain ⟨t0,t1,l0,l1⟩:=takes_bd op h1 h2;have HE:=λ w=>eff_c op h1 h2 w;have HL:=λ (w':W) (m:Ze [] w w')=>stk_lenF (h.qd.mod m (by simp) (by simp));have HK:=λ (w':W) (m:Ze [] w w')=>stk_lenI (h.calls.mod m (by simp) (by simp));have hr:s.qt ⟨op,n,x⟩=!((decide ((s.qd.length:Int) < (if op=5 then n+1 else Xe op)) || decide (64 < (s.qd.length:Int) - Xe op+Qr op)) || (op==14&&((s.calls.length:Int)==16))):=J;rw [hr];clear hr;generalize Xe op=t at *
 generalize Qr op=l at *
 obtain ⟨qG,hN⟩:∃ qG:Int,qG=s.qd.length:=⟨_,J⟩;obtain ⟨K,hK⟩:∃ K:Int,K=s.calls.length:=⟨_,J⟩;rw [<-hN,<-hK];rw [<-hN] at HL;rw [<-hK] at HK;have N0:0<=qG:=by omega
 have N1:qG<=64:=by omega
 have w1:IntKind.i64.wrap (qG - t)=qG - t:=IntWalk.i64_in _ (by omega);have w2:IntKind.i64.wrap (qG - t+l)=qG - t+l:=IntWalk.i64_in _ (by omega);have hlt:=B9 h.hd;have r23:=λ (w':W) (m:Ze [] w w')=>((h.mod m (by simp)).cell 23 (u:=E (I ⟨p.nb,0,O⟩)) J).1;have r24:=λ (w':W) (m:Ze [] w w')=>((h.mod m (by simp)).cell 24 (u:=E (I ⟨p.kb,0,O⟩)) J).1;clear h hN hK t0 t1 l0 l1 N0 N1
 by_cases e5:op=5
 ·subst e5;rw [P9 rfl];have w0:IntKind.i64.wrap (n+1)=n+1:=IntWalk.i64_in _ (by have:=h5 J;omega);clear h5 h1 h2;cases d1:decide (qG < n+1)
  ·cases d2:decide (64 < qG - t+l)
   ·skip
    go_enter func142,ntmps142;go_wp2_with fail;refine (HE _).mono ?_;rintro e w3 ⟨rfl,D1⟩;have D:Ze [] w w3:=((Zr_ _ _).alloc _).trans D1;have q0:w3.cell? ⟨w.heap.size,0,O⟩=I (U Y 5):=Za (D1.at (Zc _ _) (by simp)) J;have q1:w3.cell? ⟨w.heap.size,1,O⟩=I (U Y n):=Za (D1.at (Zc _ _) (by simp)) J;have q23:=r23 w3 D;have q24:=r24 w3 D;clear D1;go_wp2_with fail;refine (HL _ D).mono ?_;rintro e w4 ⟨rfl,hw4⟩;have hw4':=hw4.symm;subst hw4';go_wp2;go_end0;exact ⟨J,D⟩
   ·skip
    go_enter func142,ntmps142;go_wp2_with fail;refine (HE _).mono ?_;rintro e w3 ⟨rfl,D1⟩;have D:Ze [] w w3:=((Zr_ _ _).alloc _).trans D1;have q0:w3.cell? ⟨w.heap.size,0,O⟩=I (U Y 5):=Za (D1.at (Zc _ _) (by simp)) J;have q1:w3.cell? ⟨w.heap.size,1,O⟩=I (U Y n):=Za (D1.at (Zc _ _) (by simp)) J;have q23:=r23 w3 D;have q24:=r24 w3 D;clear D1;go_wp2_with fail;refine (HL _ D).mono ?_;rintro e w4 ⟨rfl,hw4⟩;have hw4':=hw4.symm;subst hw4';go_wp2_with fail;refine (Ja 82 (by decide) _).mono ?_;rintro e w4 ⟨rfl,hw4⟩;have hw4':=hw4.symm;subst hw4';go_wp2;exact ⟨J,J,D⟩
  ·skip
   go_enter func142,ntmps142;go_wp2_with fail;refine (HE _).mono ?_;rintro e w3 ⟨rfl,D1⟩;have D:Ze [] w w3:=((Zr_ _ _).alloc _).trans D1;have q0:w3.cell? ⟨w.heap.size,0,O⟩=I (U Y 5):=Za (D1.at (Zc _ _) (by simp)) J;have q1:w3.cell? ⟨w.heap.size,1,O⟩=I (U Y n):=Za (D1.at (Zc _ _) (by simp)) J;have q23:=r23 w3 D;have q24:=r24 w3 D;clear D1;go_wp2_with fail;refine (HL _ D).mono ?_;rintro e w4 ⟨rfl,hw4⟩;have hw4':=hw4.symm;subst hw4';go_wp2_with fail;refine (Ja 82 (by decide) _).mono ?_;rintro e w4 ⟨rfl,hw4⟩;have hw4':=hw4.symm;subst hw4';go_wp2;exact ⟨J,J,D⟩
 ·rw [Q9 e5];have b5:(op==5)=false:=by simp [e5]
  clear h5 h1 h2 e5;cases d1:decide (qG < t)
  ·cases d2:decide (64 < qG - t+l)
   ·cases d3:(op==14)
    ·skip
     go_enter func142,ntmps142;go_wp2_with fail;refine (HE _).mono ?_;rintro e w3 ⟨rfl,D1⟩;have D:Ze [] w w3:=((Zr_ _ _).alloc _).trans D1;have q0:w3.cell? ⟨w.heap.size,0,O⟩=I (U Y op):=Za (D1.at (Zc _ _) (by simp)) J;have q1:w3.cell? ⟨w.heap.size,1,O⟩=I (U Y n):=Za (D1.at (Zc _ _) (by simp)) J;have q23:=r23 w3 D;have q24:=r24 w3 D;clear D1;go_wp2_with fail;refine (HL _ D).mono ?_;rintro e w4 ⟨rfl,hw4⟩;have hw4':=hw4.symm;subst hw4';go_wp2;go_end0;exact ⟨J,D⟩
    ·cases d4:(K==16)
     ·skip
      go_enter func142,ntmps142;go_wp2_with fail;refine (HE _).mono ?_;rintro e w3 ⟨rfl,D1⟩;have D:Ze [] w w3:=((Zr_ _ _).alloc _).trans D1;have q0:w3.cell? ⟨w.heap.size,0,O⟩=I (U Y op):=Za (D1.at (Zc _ _) (by simp)) J;have q1:w3.cell? ⟨w.heap.size,1,O⟩=I (U Y n):=Za (D1.at (Zc _ _) (by simp)) J;have q23:=r23 w3 D;have q24:=r24 w3 D;clear D1;go_wp2_with fail;refine (HL _ D).mono ?_;rintro e w4 ⟨rfl,hw4⟩;have hw4':=hw4.symm;subst hw4';go_wp2_with fail;refine (HK _ D).mono ?_;rintro e w4 ⟨rfl,hw4⟩;have hw4':=hw4.symm;subst hw4';go_wp2;go_end0;exact ⟨J,D⟩
     ·skip
      go_enter func142,ntmps142;go_wp2_with fail;refine (HE _).mono ?_;rintro e w3 ⟨rfl,D1⟩;have D:Ze [] w w3:=((Zr_ _ _).alloc _).trans D1;have q0:w3.cell? ⟨w.heap.size,0,O⟩=I (U Y op):=Za (D1.at (Zc _ _) (by simp)) J;have q1:w3.cell? ⟨w.heap.size,1,O⟩=I (U Y n):=Za (D1.at (Zc _ _) (by simp)) J;have q23:=r23 w3 D;have q24:=r24 w3 D;clear D1;go_wp2_with fail;refine (HL _ D).mono ?_;rintro e w4 ⟨rfl,hw4⟩;have hw4':=hw4.symm;subst hw4';go_wp2_with fail;refine (HK _ D).mono ?_;rintro e w4 ⟨rfl,hw4⟩;have hw4':=hw4.symm;subst hw4';go_wp2_with fail;refine (Ja 82 (by decide) _).mono ?_;rintro e w4 ⟨rfl,hw4⟩;have hw4':=hw4.symm;subst hw4';go_wp2;exact ⟨J,J,D⟩
   ·skip
    go_enter func142,ntmps142;go_wp2_with fail;refine (HE _).mono ?_;rintro e w3 ⟨rfl,D1⟩;have D:Ze [] w w3:=((Zr_ _ _).alloc _).trans D1;have q0:w3.cell? ⟨w.heap.size,0,O⟩=I (U Y op):=Za (D1.at (Zc _ _) (by simp)) J;have q1:w3.cell? ⟨w.heap.size,1,O⟩=I (U Y n):=Za (D1.at (Zc _ _) (by simp)) J;have q23:=r23 w3 D;have q24:=r24 w3 D;clear D1;go_wp2_with fail;refine (HL _ D).mono ?_;rintro e w4 ⟨rfl,hw4⟩;have hw4':=hw4.symm;subst hw4';go_wp2_with fail;refine (Ja 82 (by decide) _).mono ?_;rintro e w4 ⟨rfl,hw4⟩;have hw4':=hw4.symm;subst hw4';go_wp2;exact ⟨J,J,D⟩
  ·skip
   go_enter func142,ntmps142;go_wp2_with fail;refine (HE _).mono ?_;rintro e w3 ⟨rfl,D1⟩;have D:Ze [] w w3:=((Zr_ _ _).alloc _).trans D1;have q0:w3.cell? ⟨w.heap.size,0,O⟩=I (U Y op):=Za (D1.at (Zc _ _) (by simp)) J;have q1:w3.cell? ⟨w.heap.size,1,O⟩=I (U Y n):=Za (D1.at (Zc _ _) (by simp)) J;have q23:=r23 w3 D;have q24:=r24 w3 D;clear D1;go_wp2_with fail;refine (HL _ D).mono ?_;rintro e w4 ⟨rfl,hw4⟩;have hw4':=hw4.symm;subst hw4';go_wp2_with fail;refine (Ja 82 (by decide) _).mono ?_;rintro e w4 ⟨rfl,hw4⟩;have hw4':=hw4.symm;subst hw4';go_wp2;exact ⟨J,J,D⟩
end
section
attribute [local go_sem] Zi
variable {w w' w0:W} {p p':MP} {s s':Zk}
theorem Y5 (D:Zl w0 p s w) (hl:s.qd.length < 64) (x:Nat):Calls N 145 #[E (I ⟨p.mb,0,O⟩),Z V x] w λ e w'=>e=R9 (.tuple #[])/\Zl w0 p (s.push x) w':=by
 obtain ⟨q,h,F⟩:=D;rw [<-F.mb];refine (mpush_c h hl x).mono ?_;rintro e w1 ⟨rfl,r,h1,h2⟩;exact ⟨J,r,h1,F.trans h2⟩
theorem Xv (D:Zl w0 p s w) (hl:0 < s.qd.length) (hb:s.qd.length<=64):Calls N 164 #[E (I ⟨p.mb,0,O⟩)] w λ e w'=>e=R9 (Z V s.top)/\Zl w0 p s.pop w':=by
 obtain ⟨q,h,F⟩:=D;rw [<-F.mb];refine (mpop_c h hl hb).mono ?_;rintro e w1 ⟨rfl,r,h1,h2⟩;exact ⟨J,r,h1,F.trans h2⟩
theorem Dj (D:Zl w0 p s w) (a b c:Int):Calls N 140 #[E (I ⟨p.mb,0,O⟩),A9 #[.int .i64 a,.int .i64 b,.int .i64 c]] w λ e w'=>e=R9 (Z1 4).val/\Zl w0 p (s.ends a b c) w':=by
 obtain ⟨q,h,F⟩:=D;rw [<-F.mb];refine (mends_c h a b c).mono ?_;rintro e w1 ⟨rfl,r,h1,h2⟩;exact ⟨J,r,h1,F.trans h2⟩
theorem Lo (D:Zl w0 p s w) (hl:0 < s.qd.length) (hb:s.qd.length<=64) (hi:Vf s.top s.c0=O):Calls N 173 #[E (I ⟨p.mb,0,O⟩)] w λ e w'=>e=.panicked [{v:=.iface 235 (.int .i64 50),recovered:=false}]/\Zl w0 p s w':=by
 obtain ⟨q,h,F⟩:=D;rw [<-F.mb];refine (Wv h hl hb).mono ?_;rintro e w1 ⟨h1,n,rfl⟩;rw [hi] at h1;exact ⟨h1,Zl.xm (⟨q,h,F⟩:Zl w0 p s w) n⟩
theorem Jz (D:Zl w0 p s w) (hl:0 < s.qd.length) (hb:s.qd.length<=64) {c:Int} (hi:Vf s.top s.c0=I c):Calls N 173 #[E (I ⟨p.mb,0,O⟩)] w λ e w'=>e=R9 (.int .i64 c)/\Zl w0 p s w':=by
 obtain ⟨q,h,F⟩:=D;rw [<-F.mb];refine (Wv h hl hb).mono ?_;rintro e w1 ⟨h1,n,rfl⟩;rw [hi] at h1;exact ⟨h1,Zl.xm (⟨q,h,F⟩:Zl w0 p s w) n⟩
theorem Hf (w:W) (x y:Value) (t:TypeId):∀ j u,[x,y][j]? =I u->(w.alloc (X #[x,y] t)).cell? ((⟨w.heap.size,0,O⟩:Addr).add j)=I u:=by
 intro j u h;have e:((⟨w.heap.size,0,O⟩:Addr).add j)=⟨w.heap.size,j,O⟩:=by unfold Addr.add;split <;> simp_all
 rw [e];exact Za (Zc _ _) (by rw [<-h];rcases j with _|_|j <;> simp)
def ExP (w:W) (p:MP) (s:Zk) (r:Except Int (Zk×Xh)) (e:Ending) (w':W):Prop:=
 match r with
 |.ok r=>e=R9 r.2.val/\Zl w p r.1 w'
 |.error c=>e=.panicked [{v:=.iface 235 (.int .i64 c),recovered:=false}]/\Zl w p s w'
theorem readE_no (hi:Vf s.top s.c0=O):s.zx=.error 50:=by unfold Zk.zx;rw [hi]
theorem El {c:Int} (hi:Vf s.top s.c0=I c) (hk:s.buf.known c=true):s.zx=.ok ({(s.pop.push (s.buf.val c)) with reads:=s.reads++[(c,s.buf.val c)]},⟨2,c,s.buf.val c,false⟩):=by unfold Zk.zx;rw [hi];exact P9 hk
theorem Si {c:Int} (hi:Vf s.top s.c0=I c) (hk:s.buf.known c=false):s.zx=.ok ({s.pop with waits:=true,cell:=c},⟨1,c,0,false⟩):=by unfold Zk.zx;rw [hi];exact Q9 (by simp [hk])
theorem Zl.res {w1:W} (D:Zl w0 p s w1) {k:Nat} {x:Obj} (hk:w0.heap[k]? =I x) (hn:k∉p.blocks):w1.heap[k]? =I x:=by
 obtain ⟨q,h,F⟩:=D;exact F.md.at hk hn
theorem Zg.new (h:Zg w p s):w.heap.size∉p.blocks:=λ hm=>by have:=h.lt hm;omega
theorem Zl.pre {w1:W} (D:Zl w1 p s w') (m:Ze [] w w1):Zl w p s w':=by
 obtain ⟨q,h,F⟩:=D;exact ⟨q,h,(Dt.fresh m).trans F⟩
theorem Zl.fin {w3 w4:W} {o:Obj} {s0:Zk} (D:Zl (w.alloc o) p s w3) (h:Zg w p s0) (m:Ze [w.heap.size] w3 w4):Zl w p s w4:=by
 obtain ⟨q,hq,F⟩:=D;have hn:w.heap.size∉q.blocks:=λ hm=>by
  rcases F.gr _ hm with h1|h1
  ·exact h.new h1
  ·simp at h1;omega
 have F0:=(Dt.fresh (p:=p) ((Zr_ [] w).alloc o)).trans F;exact ⟨q,hq.mod m (by simp;intro k hk e;exact hn (e ▸ hk)),⟨F0.md.then m (by simp),F0.gr,F0.mb⟩⟩
def Ye:Obj:=X #[.int .i64 0,.int .i64 0,Z V 0,.bool false] 152
theorem read_no (h:Zg w p s) (hl:0 < s.qd.length) (hb:s.qd.length<=64) (hi:Vf s.top s.c0=O):Calls N 161 #[E (I ⟨p.mb,0,O⟩)] w (ExP w p s s.zx):=by
 rw [readE_no hi];have D0:Zl (w.alloc Ye) p s (w.alloc Ye):=.same (h.alloc _);go_enter func161,ntmps161;go_wp2_with fail;refine (Lo D0 hl hb hi).mono ?_;rintro e w1 ⟨rfl,D1⟩;go_wp2;exact ⟨J,J,D1.pre ((Zr_ _ _).alloc _)⟩
theorem Ek (h:Zg w p s) (hl:0 < s.qd.length) (hb:s.qd.length<=64) {c:Int} (hi:Vf s.top s.c0=I c) (hk:s.buf.known c=false) (hcw:(Lit.int .i64 c).wf=true):Calls N 161 #[E (I ⟨p.mb,0,O⟩)] w (ExP w p s s.zx):=by
 rw [Si hi hk];have D0:Zl (w.alloc Ye) p s (w.alloc Ye):=.same (h.alloc _);have hkn:=Zh_ h.new;have hlt:=B9 h.hd;go_enter func161,ntmps161;go_wp2_with fail;refine (Jz D0 hl hb hi).mono ?_;rintro e w1 ⟨rfl,D1⟩;go_wp2_with fail;refine (Xv D1 hl hb).mono ?_;rintro e w2 ⟨rfl,D2⟩;have D2':=D2;obtain ⟨q,hq,F⟩:=D2';have r34:w2.cell? ⟨p.mb,34,O⟩=I (E (I ⟨q.bb,0,O⟩)):=by rw [<-F.mb];exact (hq.cell 34 (u:=E (I ⟨q.bb,0,O⟩)) J).1
 go_wp2_with fail;refine (Ob hq.buf c hcw).mono ?_;rintro e w3 ⟨rfl,n,rfl⟩;have D3:=D2.xm n;clear D2 D1 D0 r34 hq F;have ek:s.pop.buf.known c=false:=hk;rw [ek];generalize w2.drewN n=w3 at *
 have r27:=(D3.cell 27 (u:=.bool s.pop.waits) (λ _=>J)).1;have f27:=(D3.cell 27 (u:=.bool s.pop.waits) (λ _=>J)).2;have r28:=(D3.cell 28 (u:=.int .i64 s.pop.cell) (λ _=>J)).1;have f28:=(D3.cell 28 (u:=.int .i64 s.pop.cell) (λ _=>J)).2;have RB:=D3.res (Zc w Ye) hkn.out;have HRB:=Zh_ RB;have g0:=Za (i:=0) RB J;have z0:=Zb (i:=0) RB;have g1:=Za (i:=1) RB J;have z1:=Zb (i:=1) RB;have g2:=Za (i:=2) RB J;have z2:=Zb (i:=2) RB;have g3:=Za (i:=3) RB J;have z3:=Zb (i:=3) RB;clear RB;have HD:=Zh_ D3;have HH:=Zh_ h;have hne:w.heap.size≠p.mb:=by omega
 clear D3 h hlt;go_wp2;have RB:=Zd (i:=3) (.bool (false)) (Zd (i:=2) (Z V (0)) (Zd (i:=1) (.int .i64 c) (Zd (i:=0) (.int .i64 1) (Zr (i:=28) (.int .i64 c) (Zr (i:=27) (.bool true) HRB.out hne) hne))));refine bodyPost_ret (v:=(⟨1,c,0,false⟩:Xh).val) (results_cell_row (P:=N) (fn:=Tryz.f161) (p:=2) (ty:=152) J _ _ w.heap.size 152 _ (0,0) _ J RB underlying152 J (by kernel_rfl)) J ⟨J,?_⟩;have D5:=(HD.out.xz 27 (.bool true) {s.pop with waits:=true} (λ _=>J) J J J J J J).xz 28 (.int .i64 c) {s.pop with waits:=true,cell:=c} (λ _=>J) J J J J J J;exact D5.fin HH.out (((((Zr_ _ _).setCell _ _ (.inl (by simp))).setCell _ _ (.inl (by simp))).setCell _ _ (.inl (by simp))).setCell _ _ (.inl (by simp)))
theorem read_own (h:Zg w p s) (hl:0 < s.qd.length) (hb:s.qd.length<=64) {c:Int} (hi:Vf s.top s.c0=I c) (hk:s.buf.known c=true) (hcw:(Lit.int .i64 c).wf=true) (hr:s.reads.length<=4096):Calls N 161 #[E (I ⟨p.mb,0,O⟩)] w (ExP w p s s.zx):=by
 rw [El hi hk];have D0:Zl (w.alloc Ye) p s (w.alloc Ye):=.same (h.alloc _);have hkn:=Zh_ h.new;have hlt:=B9 h.hd;go_enter func161,ntmps161;go_wp2_with fail;refine (Jz D0 hl hb hi).mono ?_;rintro e w1 ⟨rfl,D1⟩;go_wp2_with fail;refine (Xv D1 hl hb).mono ?_;rintro e w2 ⟨rfl,D2⟩;have D2':=D2;obtain ⟨q,hq,F⟩:=D2';have r34:w2.cell? ⟨p.mb,34,O⟩=I (E (I ⟨q.bb,0,O⟩)):=by rw [<-F.mb];exact (hq.cell 34 (u:=E (I ⟨q.bb,0,O⟩)) J).1
 go_wp2_with fail;refine (Ob hq.buf c hcw).mono ?_;rintro e w3 ⟨rfl,n,rfl⟩;have D3:=D2.xm n;clear D2 D1 D0 r34 hq F;have ek:s.pop.buf.known c=true:=hk;have ev:s.pop.buf.val c=s.buf.val c:=J;rw [ek,ev];generalize w2.drewN n=w3 at *
 have HH:=Zh_ h;clear h;go_wp2_with fail;refine (Y5 D3 (by simp [Zk.pop];omega) (s.buf.val c)).mono ?_;rintro e w4 ⟨rfl,D4⟩;clear D3;have RB4:=D4.res (Zc w Ye) hkn.out;have hsz:w.heap.size+1<=w4.heap.size:=by have:=D4.size;simpa using this
 obtain ⟨q,hq,F⟩:=D4;have hnq:w.heap.size∉q.blocks:=λ hm=>by
  rcases F.gr _ hm with h1|h1
  ·exact hkn.out h1
  ·simp at h1;omega
 obtain ⟨av,cv,hv⟩:=Zo hq.reads;have r33:w4.cell? ⟨p.mb,33,O⟩=I (L av s.reads.length cv):=by rw [<-F.mb,show L av s.reads.length cv=q.vr from hv.symm];exact (hq.cell 33 (u:=q.vr) J).1
 have hrow:=hq.reads;rw [hv] at hrow;have hF:=Zh_ F.mb;have HF:=Zh_ F;have HQ:=Zh_ hq;have HV:=Zh_ hv;have HNQ:=Zh_ hnq;have HSZ:=Zh_ hsz;clear F hq hv hnq hsz;obtain ⟨i0,hi0,hz0,hz1,hz2⟩:=info_parts N4;go_wp2_with (at_builtin;refine wpList_append_own_at _ J _ _ 46 J 0 53 i0 (A9 #[.int .i64 0,Z V 0]) 2 16 underlying46 hi0 hz0 hz1 hz2 J (by decide) _ _ _ J (hrow.alloc _) ⟨w4.heap.size,0,O⟩ 1 1 [Value.int .i64 c,Z V (s.buf.val c)] J J ?CA ?CB ?CC ?CD ?CE ?_)
 case CA=>exact Hf _ _ _ _
 case CB=>intro u hu;simp at hu;rcases hu with rfl|rfl <;> rfl
 case CC=>unfold maxLen;show s.reads.length+1<=_;omega
 case CD=>show (s.reads.length+1) * 16<=_;omega
 case CE=>exact Nat.zero_le _
 intro u' w5 ho5 hg5 _ hat;obtain ⟨g5,cap5,rfl,-⟩:=Ya ho5 (by omega);have m5:Ze q.vr.ownBlock.toList w4 w5:=((Zr_ _ _).alloc _).grown hg5 (λ g hg=>.inl (by rw [HV.out];exact Option.mem_toList.2 hg));have hon:Jn w4 q.vr (L (I ⟨g5,0,O⟩) (s.reads.length+1) cap5):=by
  rcases hat with e|e
  ·exact .inl (by rw [HV.out];exact e)
  ·exact .inr ⟨_,e,by simp⟩
 have hm5:q.mb∉q.vr.ownBlock.toList:=λ hm=>Zy HQ.out.zk (HQ.out.ja (by simpa using hm)) (by decide) J;have K5:=m5.at HQ.out.hd hm5;have r33':w5.cell? ⟨p.mb,33,O⟩=I (L av s.reads.length cv):=by rw [<-hF.out,show L av s.reads.length cv=q.vr from HV.out.symm];exact Za K5 J
 have f33':w5.frozen? ⟨p.mb,33,O⟩=false:=by rw [<-hF.out];exact Zb K5
 have RB:=m5.at RB4 (λ hm=>HNQ.out (by rw [Y3];simp at hm;simp [hm]));have HRB:=Zh_ RB;have g0:=Za (i:=0) RB J;have z0:=Zb (i:=0) RB;have g1:=Za (i:=1) RB J;have z1:=Zb (i:=1) RB;have g2:=Za (i:=2) RB J;have z2:=Zb (i:=2) RB;have g3:=Za (i:=3) RB J;have z3:=Zb (i:=3) RB;have ho5':w5.ownsRow 0 53 2 (L (I ⟨g5,0,O⟩) (s.reads.length+1) cap5) (s.reads++[(c,s.buf.val c)]).length (Yj (s.reads++[(c,s.buf.val c)])):=by
  rw [Bt];simpa [Yj,Zk.push,Zk.pop] using ho5
 have HO:=Zh_ ho5';have HON:=Zh_ hon;have HM:=Zh_ m5;have hne:w.heap.size≠p.mb:=by omega
 clear RB RB4 hat hg5 ho5 ho5' hon m5 hm5 K5 hrow r33 hlt;go_wp2;have RB:=Zd (i:=3) (.bool (false)) (Zd (i:=2) (Z V (s.buf.val c)) (Zd (i:=1) (.int .i64 c) (Zd (i:=0) (.int .i64 2) (Zr (i:=33) (L (I ⟨g5,0,O⟩) (s.reads.length+1) cap5) HRB.out hne))));refine bodyPost_ret (v:=(⟨2,c,s.buf.val c,false⟩:Xh).val) (results_cell_row (P:=N) (fn:=Tryz.f161) (p:=2) (ty:=152) J _ _ w.heap.size 152 _ (0,0) _ J RB underlying152 J (by kernel_rfl)) J ⟨J,?_⟩;obtain ⟨k1,k2⟩:=HQ.out.wk HO.out HON.out HM.out;have D6:Zl (w.alloc Ye) p {(s.pop.push (s.buf.val c)) with reads:=s.reads++[(c,s.buf.val c)]} (w5.setCell ⟨q.mb,33,O⟩ (L (I ⟨g5,0,O⟩) (s.reads.length+1) cap5)):=⟨_,k1,HF.out.trans k2⟩;rw [hF.out] at D6;exact D6.fin HH.out (((((Zr_ _ _).setCell _ _ (.inl (by simp))).setCell _ _ (.inl (by simp))).setCell _ _ (.inl (by simp))).setCell _ _ (.inl (by simp)))
end
section
attribute [local go_sem] Zi
variable {w w' w0:W} {p p':MP} {s s':Zk}
theorem Oo (ht:s.tag≠2):s.zh=.error 81:=by unfold Zk.zh;rw [P9 ht]
theorem Oq (ht:s.tag=2) (hi:Vf s.top s.c0=O):s.zh=.error 50:=by unfold Zk.zh;rw [Q9 (by simp [ht]),hi]
theorem Cp {c:Int} (ht:s.tag=2) (hi:Vf s.top s.c0=I c) (hk:s.buf.known c=false) (hf:(s.buf.order.length:Int)=s.buf.qy):s.zh=.error 70:=by unfold Zk.zh;rw [Q9 (by simp [ht]),hi];exact P9 ⟨hk,hf⟩
theorem Dz {c:Int} (ht:s.tag=2) (hi:Vf s.top s.c0=I c) (hk:¬ (s.buf.known c=false/\(s.buf.order.length:Int)=s.buf.qy)):s.zh=.ok ({s.pop.pop with buf:=s.buf.put c (s.pick 1)},⟨3,c,s.pick 1,!s.buf.known c⟩):=by unfold Zk.zh;rw [Q9 (by simp [ht]),hi];exact Q9 hk
theorem write_ro (h:Zg w p s) (ht:s.tag≠2):Calls N 162 #[E (I ⟨p.mb,0,O⟩)] w (ExP w p s s.zh):=by
 rw [Oo ht];have D0:Zl (w.alloc Ye) p s (w.alloc Ye):=.same (h.alloc _);have hkn:=Zh_ h.new;have hlt:=B9 h.hd;have r4:w.cell? ⟨p.mb,4,O⟩=I (.int .i64 s.tag):=(h.cell 4 (u:=.int .i64 s.tag) J).1;have HH:=Zh_ h;clear h;have ht':(s.tag !=2)=true:=by simp [ht]
 go_enter func162,ntmps162;go_wp2_with fail;refine (Ja 81 (by decide) _).mono ?_;rintro e w1 ⟨rfl,hw1⟩;have hw1':=hw1.symm;subst hw1';go_wp2;exact ⟨J,J,D0.pre ((Zr_ _ _).alloc _)⟩
theorem write_no (h:Zg w p s) (hl:2<=s.qd.length) (hb:s.qd.length<=64) (ht:s.tag=2) (hi:Vf s.top s.c0=O):Calls N 162 #[E (I ⟨p.mb,0,O⟩)] w (ExP w p s s.zh):=by
 rw [Oq ht hi];have D0:Zl (w.alloc Ye) p s (w.alloc Ye):=.same (h.alloc _);have hkn:=Zh_ h.new;have hlt:=B9 h.hd;have r4:w.cell? ⟨p.mb,4,O⟩=I (.int .i64 s.tag):=(h.cell 4 (u:=.int .i64 s.tag) J).1;have HH:=Zh_ h;clear h;rw [ht] at r4;go_enter func162,ntmps162;go_wp2_with fail;refine (Lo D0 (by omega) hb hi).mono ?_;rintro e w1 ⟨rfl,D1⟩;go_wp2;exact ⟨J,J,D1.pre ((Zr_ _ _).alloc _)⟩
theorem Ry (h:Zg w p s) (hl:2<=s.qd.length) (hb:s.qd.length<=64) (ht:s.tag=2) {c:Int} (hi:Vf s.top s.c0=I c) (hcw:(Lit.int .i64 c).wf=true) (hk:s.buf.known c=false) (hf:(s.buf.order.length:Int)=s.buf.qy):Calls N 162 #[E (I ⟨p.mb,0,O⟩)] w (ExP w p s s.zh):=by
 rw [Cp ht hi hk hf];have D0:Zl (w.alloc Ye) p s (w.alloc Ye):=.same (h.alloc _);have hkn:=Zh_ h.new;have hlt:=B9 h.hd;have r4:w.cell? ⟨p.mb,4,O⟩=I (.int .i64 s.tag):=(h.cell 4 (u:=.int .i64 s.tag) J).1;have HH:=Zh_ h;clear h;rw [ht] at r4;go_enter func162,ntmps162;go_wp2_with fail;refine (Jz D0 (by omega) hb hi).mono ?_;rintro e w1 ⟨rfl,D1⟩;have D1':=D1;obtain ⟨q,hq,F⟩:=D1';have r23:w1.cell? ⟨p.mb,23,O⟩=I (E (I ⟨q.nb,0,O⟩)):=by rw [<-F.mb];exact (hq.cell 23 (u:=E (I ⟨q.nb,0,O⟩)) J).1
 clear D0 r4;go_wp2_with fail;refine (V5 hq.qd 1 (by omega) (by omega)).mono ?_;rintro e w2 ⟨rfl,n,rfl⟩;have D2:=D1.xm n;have ep:s.qd.getD (s.qd.length - 1 - 1) 0=s.pick 1:=J;rw [ep];clear D1 r23 hq F ep;generalize w1.drewN n=w2 at *
 obtain ⟨q,hq,F⟩:=D2;have r34:w2.cell? ⟨p.mb,34,O⟩=I (E (I ⟨q.bb,0,O⟩)):=by rw [<-F.mb];exact (hq.cell 34 (u:=E (I ⟨q.bb,0,O⟩)) J).1
 go_wp2_with fail;refine (buf_full hq.buf c hcw hk hf (s.pick 1)).mono ?_;rintro e w3 ⟨rfl,m,rfl⟩;have D3:=Zl.xm (⟨q,hq,F⟩:Zl (w.alloc Ye) p s w2) m;go_wp2_with fail;refine (Ja 70 (by decide) _).mono ?_;rintro e w1 ⟨rfl,hw1⟩;have hw1':=hw1.symm;subst hw1';go_wp2;exact ⟨J,J,D3.pre ((Zr_ _ _).alloc _)⟩
theorem Co (h:Zg w p s) (hl:2<=s.qd.length) (hb:s.qd.length<=64) (ht:s.tag=2) {c:Int} (hi:Vf s.top s.c0=I c) (hcw:(Lit.int .i64 c).wf=true) (hk:s.buf.known c=true):Calls N 162 #[E (I ⟨p.mb,0,O⟩)] w (ExP w p s s.zh):=by
 rw [Dz ht hi (by simp [hk]),hk];have D0:Zl (w.alloc Ye) p s (w.alloc Ye):=.same (h.alloc _);have hkn:=Zh_ h.new;have hlt:=B9 h.hd;have r4:w.cell? ⟨p.mb,4,O⟩=I (.int .i64 s.tag):=(h.cell 4 (u:=.int .i64 s.tag) J).1;have HH:=Zh_ h;clear h;rw [ht] at r4;go_enter func162,ntmps162;go_wp2_with fail;refine (Jz D0 (by omega) hb hi).mono ?_;rintro e w1 ⟨rfl,D1⟩;have D1':=D1;obtain ⟨q,hq,F⟩:=D1';have r23:w1.cell? ⟨p.mb,23,O⟩=I (E (I ⟨q.nb,0,O⟩)):=by rw [<-F.mb];exact (hq.cell 23 (u:=E (I ⟨q.nb,0,O⟩)) J).1
 clear D0 r4;go_wp2_with fail;refine (V5 hq.qd 1 (by omega) (by omega)).mono ?_;rintro e w2 ⟨rfl,n,rfl⟩;have D2:=D1.xm n;have ep:s.qd.getD (s.qd.length - 1 - 1) 0=s.pick 1:=J;rw [ep];clear D1 r23 hq F ep;generalize w1.drewN n=w2 at *
 obtain ⟨q,hq,F⟩:=D2;have r34:w2.cell? ⟨p.mb,34,O⟩=I (E (I ⟨q.bb,0,O⟩)):=by rw [<-F.mb];exact (hq.cell 34 (u:=E (I ⟨q.bb,0,O⟩)) J).1
 go_wp2_with fail;refine (Mp hq.buf c hcw hk (s.pick 1)).mono ?_;rintro e w3 ⟨rfl,B3,m3⟩;obtain ⟨h3,F3⟩:=hq.yu B3 (.refl) (m3.mono (by simp));have D3:Zl (w.alloc Ye) p {s with buf:=s.buf.put c (s.pick 1)} w3:=⟨_,h3,F.trans F3⟩;clear r34 hq F B3 m3 h3 F3;go_wp2_with fail;refine (must_k _).mono ?_;rintro e w4 ⟨rfl,hw4⟩;have hw4':=hw4.symm;subst hw4';go_wp2_with fail;refine (Xv D3 (show 0 < s.qd.length by omega) (show s.qd.length<=64 by omega)).mono ?_;rintro e w5 ⟨rfl,D5⟩;go_wp2_with fail;refine (Xv D5 (show 0 < s.qd.dropLast.length by simp;omega) (show s.qd.dropLast.length<=64 by simp;omega)).mono ?_;rintro e w6 ⟨rfl,D6⟩;have RB:=D6.res (Zc w Ye) hkn.out;have HRB:=Zh_ RB;have g0:=Za (i:=0) RB J;have z0:=Zb (i:=0) RB;have g1:=Za (i:=1) RB J;have z1:=Zb (i:=1) RB;have g2:=Za (i:=2) RB J;have z2:=Zb (i:=2) RB;have g3:=Za (i:=3) RB J;have z3:=Zb (i:=3) RB;have HD:=Zh_ D6;clear RB D3 D5 D6;go_wp2;have RB:=Zd (i:=3) (.bool (!true)) (Zd (i:=2) (Z V (s.pick 1)) (Zd (i:=1) (.int .i64 c) (Zd (i:=0) (.int .i64 3) (HRB.out))));refine bodyPost_ret (v:=(⟨3,c,s.pick 1,!true⟩:Xh).val) (results_cell_row (P:=N) (fn:=Tryz.f162) (p:=2) (ty:=152) J _ _ w.heap.size 152 _ (0,0) _ J RB underlying152 J (by kernel_rfl)) J ⟨J,?_⟩;exact Zl.fin (show Zl (w.alloc Ye) p {s.pop.pop with buf:=s.buf.put c (s.pick 1)} w6 from HD.out) HH.out (((((Zr_ _ _).setCell _ _ (.inl (by simp))).setCell _ _ (.inl (by simp))).setCell _ _ (.inl (by simp))).setCell _ _ (.inl (by simp)))
theorem On (h:Zg w p s) (hl:2<=s.qd.length) (hb:s.qd.length<=64) (ht:s.tag=2) {c:Int} (hi:Vf s.top s.c0=I c) (hcw:(Lit.int .i64 c).wf=true) (hk:s.buf.known c=false) (hf:(s.buf.order.length:Int) < s.buf.qy):Calls N 162 #[E (I ⟨p.mb,0,O⟩)] w (ExP w p s s.zh):=by
 rw [Dz ht hi (by omega),hk];have D0:Zl (w.alloc Ye) p s (w.alloc Ye):=.same (h.alloc _);have hkn:=Zh_ h.new;have hlt:=B9 h.hd;have r4:w.cell? ⟨p.mb,4,O⟩=I (.int .i64 s.tag):=(h.cell 4 (u:=.int .i64 s.tag) J).1;have HH:=Zh_ h;clear h;rw [ht] at r4;go_enter func162,ntmps162;go_wp2_with fail;refine (Jz D0 (by omega) hb hi).mono ?_;rintro e w1 ⟨rfl,D1⟩;have D1':=D1;obtain ⟨q,hq,F⟩:=D1';have r23:w1.cell? ⟨p.mb,23,O⟩=I (E (I ⟨q.nb,0,O⟩)):=by rw [<-F.mb];exact (hq.cell 23 (u:=E (I ⟨q.nb,0,O⟩)) J).1
 clear D0 r4;go_wp2_with fail;refine (V5 hq.qd 1 (by omega) (by omega)).mono ?_;rintro e w2 ⟨rfl,n,rfl⟩;have D2:=D1.xm n;have ep:s.qd.getD (s.qd.length - 1 - 1) 0=s.pick 1:=J;rw [ep];clear D1 r23 hq F ep;generalize w1.drewN n=w2 at *
 obtain ⟨q,hq,F⟩:=D2;have r34:w2.cell? ⟨p.mb,34,O⟩=I (E (I ⟨q.bb,0,O⟩)):=by rw [<-F.mb];exact (hq.cell 34 (u:=E (I ⟨q.bb,0,O⟩)) J).1
 go_wp2_with fail;refine (Ra hq.buf c hcw hk hf (s.pick 1)).mono ?_;rintro e w3 ⟨rfl,v3,B3,o3,m3⟩;obtain ⟨h3,F3⟩:=hq.yu B3 o3 m3;have D3:Zl (w.alloc Ye) p {s with buf:=s.buf.put c (s.pick 1)} w3:=⟨_,h3,F.trans F3⟩;clear r34 hq F B3 m3 h3 F3 o3;go_wp2_with fail;refine (must_k _).mono ?_;rintro e w4 ⟨rfl,hw4⟩;have hw4':=hw4.symm;subst hw4';go_wp2_with fail;refine (Xv D3 (show 0 < s.qd.length by omega) (show s.qd.length<=64 by omega)).mono ?_;rintro e w5 ⟨rfl,D5⟩;go_wp2_with fail;refine (Xv D5 (show 0 < s.qd.dropLast.length by simp;omega) (show s.qd.dropLast.length<=64 by simp;omega)).mono ?_;rintro e w6 ⟨rfl,D6⟩;have RB:=D6.res (Zc w Ye) hkn.out;have HRB:=Zh_ RB;have g0:=Za (i:=0) RB J;have z0:=Zb (i:=0) RB;have g1:=Za (i:=1) RB J;have z1:=Zb (i:=1) RB;have g2:=Za (i:=2) RB J;have z2:=Zb (i:=2) RB;have g3:=Za (i:=3) RB J;have z3:=Zb (i:=3) RB;have HD:=Zh_ D6;clear RB D3 D5 D6;go_wp2;have RB:=Zd (i:=3) (.bool (!false)) (Zd (i:=2) (Z V (s.pick 1)) (Zd (i:=1) (.int .i64 c) (Zd (i:=0) (.int .i64 3) (HRB.out))));refine bodyPost_ret (v:=(⟨3,c,s.pick 1,!false⟩:Xh).val) (results_cell_row (P:=N) (fn:=Tryz.f162) (p:=2) (ty:=152) J _ _ w.heap.size 152 _ (0,0) _ J RB underlying152 J (by kernel_rfl)) J ⟨J,?_⟩;exact Zl.fin (show Zl (w.alloc Ye) p {s.pop.pop with buf:=s.buf.put c (s.pick 1)} w6 from HD.out) HH.out (((((Zr_ _ _).setCell _ _ (.inl (by simp))).setCell _ _ (.inl (by simp))).setCell _ _ (.inl (by simp))).setCell _ _ (.inl (by simp)))
end
section
attribute [local go_sem] Zi
variable {w w' w0:W} {p p':MP} {s s':Zk}
theorem grew_r {w4 w5 wa:W} {q:MP} (hq:Zg w4 q s) {v:Value} (hv:q.vr=v) (ma:Ze [] w4 wa) (hg:wa.grownBy w5 v.ownBlock) {g n cap:Nat} (hat:v.ownBlock=I g\/g=wa.heap.size):
  Ze q.vr.ownBlock.toList w4 w5/\Jn w4 q.vr (L (I ⟨g,0,O⟩) n cap)/\w5.heap[q.mb]? =I (.cells (Q6 q s) 185 (0,0)):=by
 subst hv;have m:Ze q.vr.ownBlock.toList w4 w5:=(ma.qj _).grown hg (λ g hg=>.inl (Option.mem_toList.2 hg));refine ⟨m,?_,m.at hq.hd (λ hm=>Zy hq.zk (hq.ja (by simpa using hm)) (by decide) J)⟩;rcases hat with e|e
 ·exact .inl (by rw [e];rfl)
 ·exact .inr ⟨g,J,by rw [e];exact ma.size⟩
theorem grew_o {w4 w5 wa:W} {q:MP} (hq:Zg w4 q s) {v:Value} (hv:q.vo=v) (ma:Ze [] w4 wa) (hg:wa.grownBy w5 v.ownBlock) {g n cap:Nat} (hat:v.ownBlock=I g\/g=wa.heap.size):
  Ze q.vo.ownBlock.toList w4 w5/\Jn w4 q.vo (L (I ⟨g,0,O⟩) n cap)/\w5.heap[q.mb]? =I (.cells (Q6 q s) 185 (0,0)):=by
 subst hv;have m:Ze q.vo.ownBlock.toList w4 w5:=(ma.qj _).grown hg (λ g hg=>.inl (Option.mem_toList.2 hg));refine ⟨m,?_,m.at hq.hd (λ hm=>Zy hq.zk (hq.jg (by simpa using hm)) (by decide) J)⟩;rcases hat with e|e
 ·exact .inl (by rw [e];rfl)
 ·exact .inr ⟨g,J,by rw [e];exact ma.size⟩
theorem Ab (h:Zg w p s) (hwt:s.waits=true) (hl:s.qd.length < 64) (hr:s.reads.length<=4096) (x:Nat):Calls N 110 #[E (I ⟨p.mb,0,O⟩),Z V x] w λ e w'=>e=R9 (U Y 0)/\Zl w p (s.xl x) w':=by
 have r27:=(h.cell 27 (u:=.bool s.waits) J).1;rw [hwt] at r27;have D0:Zl w p s w:=.same h;have hlt:=B9 h.hd;go_enter func110,ntmps110;go_wp2_with fail;refine (Yq _ _).mono ?_;rintro e w1 ⟨rfl,hw1⟩;have hw1':=hw1.symm;subst hw1';go_wp2_with fail;refine (Y5 D0 hl (Zq x)).mono ?_;rintro e w4 ⟨rfl,D4⟩;clear r27 D0 h;obtain ⟨q,hq,F⟩:=D4;obtain ⟨av,cv,hv⟩:=Zo hq.reads;have r33:w4.cell? ⟨p.mb,33,O⟩=I (L av s.reads.length cv):=by rw [<-F.mb,show L av s.reads.length cv=q.vr from hv.symm];exact (hq.cell 33 (u:=q.vr) J).1
 have r28:w4.cell? ⟨p.mb,28,O⟩=I (U Y s.cell):=by rw [<-F.mb];exact (hq.cell 28 (u:=U Y s.cell) J).1
 have hlt4:p.mb < w4.heap.size:=by rw [<-F.mb];exact B9 hq.hd
 have hrow:w4.drew.ownsRow 0 53 2 (L av s.reads.length cv) s.reads.length (Yj s.reads):=by have:=hq.reads;rw [hv] at this;exact this
 have hF:=Zh_ F.mb;have HF:=Zh_ F;have HQ:=Zh_ hq;have HV:=Zh_ hv;clear F hq hv;obtain ⟨i0,hi0,hz0,hz1,hz2⟩:=info_parts N4;go_wp2_with fail
 go_region_law (refine step_append_lies _ J (.tmp 19) (.tmp 26) 46 J 0 53 i0 (A9 #[U Y 0,Z V 0]) 2 16 underlying46 hi0 hz0 hz1 hz2 J (by decide) (L av s.reads.length cv) s.reads.length (Yj s.reads) (by simp [Act.eval]) (hrow.alloc _) ⟨w4.heap.size,0,O⟩ 1 1 [U Y s.cell,Z V (Zq x)] (by simp [Act.eval]) J (Hf w4.drew _ _ 53) (by intro u hu;simp at hu;rcases hu with rfl|rfl <;> rfl) (by decide) (by unfold maxLen;omega) (by omega) (Nat.zero_le _) _ J ?_;intro g5 cap5 w5 ho5 hg5 hat hlt5;obtain ⟨m5,hon,K5⟩:=grew_r (n:=s.reads.length+1) (cap:=cap5) HQ.out HV.out (((Zr_ [] w4).drew).alloc _) hg5 hat;rw [hF.out] at K5;have r33':=Za (i:=33) K5 J;have f33':=Zb (i:=33) K5;have r27':=Za (i:=27) K5 J;have f27':=Zb (i:=27) K5;have HO:=Zh_ ho5;have HON:=Zh_ hon;have HM:=Zh_ m5;clear ho5 hg5 hat hlt5 hon m5 K5)
 all_goals
  go_wp2;go_ret;obtain ⟨k1,k2⟩:=HQ.out.wk (xs:=s.reads++[(s.cell,Zq x)]) (by rw [Bt,List.length_append];exact HO.out) HON.out HM.out;have D6:Zl w p {(s.push (Zq x)) with reads:=s.reads++[(s.cell,Zq x)]} (w5.setCell ⟨q.mb,33,O⟩ (L (I ⟨g5,0,O⟩) (s.reads.length+1) cap5)):=⟨_,k1,HF.out.trans k2⟩;rw [hF.out] at D6;exact ⟨J,D6.xz 27 (.bool false) (s.xl x) (λ _=>J) J J J J J J⟩
end
section
attribute [local go_sem] Zi
variable {w w' w0:W} {p p':MP} {s s':Zk}
def Vl (w:W) (t:TypeId) (z n:Nat) (xs:List Value) (e:Ending) (w':W):Prop:=
 ∃ u,e=R9 u/\w'.ownsRow 0 t z u n xs/\(∀ g,u.ownBlock=I g->w.heap.size<=g)/\Ze [] w w'
theorem Vl.of {w w':W} {t:TypeId} {z n:Nat} {xs:List Value} {u:Value} (h:w'.ownsRow 0 t z u n xs) (hg:w.grownBy w' O) (hb:u.ownBlock=O\/u.ownBlock=I w.heap.size):Vl w t z n xs (R9 u) w':=by
 refine ⟨u,J,h,λ g hg'=>?_,(Zr_ _ _).grown hg (by simp)⟩;rcases hb with e|e
 ·rw [e] at hg';simp at hg'
 ·rw [e] at hg';simp at hg';omega
theorem end_c (h:Zg w p s):Calls N 111 #[E (I ⟨p.mb,0,O⟩)] w λ e w'=>e=R9 (A9 #[U Y s.qq,U Y s.qn,U Y s.zd])/\Ze [] w w':=by
 have r29:=(h.cell 29 (u:=U Y s.qq) J).1;have r30:=(h.cell 30 (u:=U Y s.qn) J).1;have r31:=(h.cell 31 (u:=U Y s.zd) J).1;have hlt:=B9 h.hd;clear h;go_enter func111,ntmps111;go_wp2;refine bodyPost_ret (v:=A9 #[U Y s.qq,U Y s.qn,U Y s.zd]) (results_cell_row (P:=N) (fn:=Tryz.f111) (p:=2) (ty:=48) J _ _ w.heap.size 48 _ (0,0) _ J (Zc _ _) underlying48 J (by kernel_rfl)) J ⟨J,(Zr_ _ _).alloc _⟩
theorem out_c (h:Zg w p s) (hb:s.out.length<=4096):Calls N 231 #[E (I ⟨p.mb,0,O⟩)] w (Vl w 51 1 s.out.length (s.out.map (Z V))):=by
 have r32:=(h.cell 32 (u:=p.vo) J).1;rcases h.out.2 with ⟨hv,h0⟩|⟨g,cap,cur,hv,-,-⟩
 ·rw [hv] at r32;have e0:s.out=[]:=List.eq_nil_of_length_eq_zero h0;rw [e0];clear h;go_enter func231,ntmps231;go_wp2;go_ret;exact ⟨_,J,World.ownsRow_nil _ _ _ _,by simp [Value.ownBlock],Zr_ _ _⟩
 ·rw [hv] at r32;have ho:=h.out;rw [hv] at ho;have hc:=ho.cells (g:=g) J;obtain ⟨i0,hi0,hz0,hz1,hz2⟩:=info_parts Up;clear h ho;go_enter func231,ntmps231;go_wp2_with (at_builtin;refine wpList_append_own_at _ J _ _ 24 J 0 51 i0 (Z V 0) 1 8 underlying24 hi0 hz0 hz1 hz2 J (by decide) _ 0 [] J (World.ownsRow_nil _ _ _ _) ⟨g,0,O⟩ s.out.length cap (s.out.map (Z V)) J (by simp) ?CA ?CB ?CC ?CD ?CE ?_)
  case CA=>exact hc
  case CB=>intro u hu;simp at hu;obtain ⟨a,_,rfl⟩:=hu;rfl
  case CC=>unfold maxLen;omega
  case CD=>omega
  case CE=>exact Nat.zero_le _
  intro u' w5 ho5 hg5 _ hat;have HC:=Zh_ (Vl.of ho5 hg5 hat);clear ho5 hg5 hat hc;go_wp2;go_ret;exact HC.out
theorem Hk (l:List (Int×Nat)):∀ u∈Yj l,u.oneCell'=true:=by
 intro u hu;unfold Yj at hu;simp at hu;obtain ⟨a,b,_,rfl|rfl⟩:=hu <;> rfl
theorem Wm (h:Zg w p s) (hb:s.reads.length<=4096):Calls N 230 #[E (I ⟨p.mb,0,O⟩)] w (Vl w 53 2 s.reads.length (Yj s.reads)):=by
 have r33:=(h.cell 33 (u:=p.vr) J).1;rcases h.reads.2 with ⟨hv,h0⟩|⟨g,cap,cur,hv,-,-⟩
 ·rw [hv] at r33;have e0:s.reads=[]:=List.eq_nil_of_length_eq_zero h0;rw [e0];clear h;go_enter func230,ntmps230;go_wp2;go_ret;exact ⟨_,J,World.ownsRow_nil _ _ _ _,by simp [Value.ownBlock],Zr_ _ _⟩
 ·rw [hv] at r33;have ho:=h.reads;rw [hv] at ho;have hc:=ho.cells (g:=g) J;obtain ⟨i0,hi0,hz0,hz1,hz2⟩:=info_parts N4;clear h ho;go_enter func230,ntmps230;go_wp2_with (at_builtin;refine wpList_append_own_at _ J _ _ 46 J 0 53 i0 (A9 #[U Y 0,Z V 0]) 2 16 underlying46 hi0 hz0 hz1 hz2 J (by decide) _ 0 [] J (World.ownsRow_nil _ _ _ _) ⟨g,0,O⟩ s.reads.length cap (Yj s.reads) J (Nh _) ?CA ?CB ?CC ?CD ?CE ?_)
  case CA=>exact hc
  case CB=>exact Hk _
  case CC=>unfold maxLen;omega
  case CD=>omega
  case CE=>exact Nat.zero_le _
  intro u' w5 ho5 hg5 _ hat;have HC:=Zh_ (Vl.of ho5 hg5 hat);clear ho5 hg5 hat hc;go_wp2;go_ret;exact HC.out
theorem Dy (h:Zg w p s) (hw:∀ k∈s.buf.order,0<=k/\k < 256):Calls N 114 #[E (I ⟨p.mb,0,O⟩)] w (Vl w 53 2 s.buf.order.length (Yj s.buf.all)):=by
 have r34:=(h.cell 34 (u:=E (I ⟨p.bb,0,O⟩)) J).1;go_enter func114,ntmps114;go_wp2_with fail;refine (buf_all h.buf (λ k hk=>Cq (hw k hk))).mono ?_;rintro e w1 ⟨u,rfl,h1,h2,h3⟩;have HC:=Zh_ (show Vl w 53 2 s.buf.order.length (Yj s.buf.all) (R9 u) w1 from ⟨u,J,h1,λ g hg=>by rw [h2] at hg;simp at hg;omega,h3⟩);clear h1 h2 h3 h;go_wp2;go_ret;exact HC.out
end
section
attribute [local go_sem] Zi
variable {w w' w0:W} {p p':MP} {s s':Zk}
def Jm (w:W) (p:MP) (s:Zk) (i:Xg) (e:Ending) (w':W):Prop:=e=R9 (.tuple #[])/\∃ v,Zl w p (s.reckon v i) w'
theorem reckon1 (h:Zg w p s) (n:Int) (x:Nat) (hl:s.qd.length < 64):Calls N 167 #[E (I ⟨p.mb,0,O⟩),A9 #[U Y 1,U Y n,Z V x]] w (Jm w p s ⟨1,n,x⟩):=by
 have D0:Zl (w.alloc (X #[U Y 1,U Y n,Z V x] 106)) p s (w.alloc (X #[U Y 1,U Y n,Z V x] 106)):=.same (h.alloc _);have hlt:=B9 h.hd;go_enter func167,ntmps167;go_wp2_with fail;refine (Yq _ _).mono ?_;rintro e w1 ⟨rfl,hw1⟩;have hw1':=hw1.symm;subst hw1';go_wp2_with fail;refine (Y5 D0 (show s.qd.length < 64 by omega) (Zq x)).mono ?_;rintro e w1 ⟨rfl,D1⟩;go_wp2;go_end0;exact ⟨J,0,D1.pre ((Zr_ _ _).alloc _)⟩
theorem reckon2 (h:Zg w p s) (n:Int) (x:Nat) (hl:0 < s.qd.length) (hb:s.qd.length<=64):Calls N 167 #[E (I ⟨p.mb,0,O⟩),A9 #[U Y 2,U Y n,Z V x]] w (Jm w p s ⟨2,n,x⟩):=by
 have D0:Zl (w.alloc (X #[U Y 2,U Y n,Z V x] 106)) p s (w.alloc (X #[U Y 2,U Y n,Z V x] 106)):=.same (h.alloc _);have hlt:=B9 h.hd;go_enter func167,ntmps167;go_wp2_with fail;refine (Xv D0 (show 0 < s.qd.length by omega) (show s.qd.length<=64 by omega)).mono ?_;rintro e w1 ⟨rfl,D1⟩;go_wp2;go_end0;exact ⟨J,0,D1.pre ((Zr_ _ _).alloc _)⟩
theorem reckon3 (h:Zg w p s) (n:Int) (x:Nat) (hl:0 < s.qd.length) (hb:s.qd.length < 64):Calls N 167 #[E (I ⟨p.mb,0,O⟩),A9 #[U Y 3,U Y n,Z V x]] w (Jm w p s ⟨3,n,x⟩):=by
 have D0:Zl (w.alloc (X #[U Y 3,U Y n,Z V x] 106)) p s (w.alloc (X #[U Y 3,U Y n,Z V x] 106)):=.same (h.alloc _);have hlt:=B9 h.hd;have r23:=(h.cell 23 (u:=E (I ⟨p.nb,0,O⟩)) J).1;have hp:=V5 (h.qd.mod ((Zr_ [] w).alloc (X #[U Y 3,U Y n,Z V x] 106)) (by simp) (by simp)) 0 hl (by omega);rw [show s.qd.getD (s.qd.length - 1 - 0) 0=s.top from J] at hp;clear h;go_enter func167,ntmps167;go_wp2_with fail;refine hp.mono ?_;rintro e w1 ⟨rfl,m,rfl⟩;have D1:=D0.xm m;clear hp D0;go_wp2_with fail;refine (Y5 D1 (show s.qd.length < 64 by omega) (s.top)).mono ?_;rintro e w2 ⟨rfl,D2⟩;go_wp2;go_end0;exact ⟨J,0,D2.pre ((Zr_ _ _).alloc _)⟩
theorem reckon4 (h:Zg w p s) (n:Int) (x:Nat) (hl:2<=s.qd.length) (hb:s.qd.length<=64):Calls N 167 #[E (I ⟨p.mb,0,O⟩),A9 #[U Y 4,U Y n,Z V x]] w (Jm w p s ⟨4,n,x⟩):=by
 have D0:Zl (w.alloc (X #[U Y 4,U Y n,Z V x] 106)) p s (w.alloc (X #[U Y 4,U Y n,Z V x] 106)):=.same (h.alloc _);have hlt:=B9 h.hd;clear h;go_enter func167,ntmps167;go_wp2_with fail;refine (Xv D0 (show 0 < s.qd.length by omega) (show s.qd.length<=64 by omega)).mono ?_;rintro e w1 ⟨rfl,D1⟩;go_wp2_with fail;refine (Xv D1 (show 0 < s.qd.dropLast.length by simp;omega) (show s.qd.dropLast.length<=64 by simp;omega)).mono ?_;rintro e w2 ⟨rfl,D2⟩;go_wp2_with fail;refine (Y5 D2 (show s.qd.dropLast.dropLast.length < 64 by simp;omega) (s.top)).mono ?_;rintro e w3 ⟨rfl,D3⟩;go_wp2_with fail;refine (Y5 D3 (show (s.qd.dropLast.dropLast++[s.top]).length < 64 by simp;omega) (s.pop.top)).mono ?_;rintro e w4 ⟨rfl,D4⟩;go_wp2;go_end0;exact ⟨J,0,D4.pre ((Zr_ _ _).alloc _)⟩
end
end Go.Proofs.YtkhonmhnchdpkaaGreat
