/- A part of the proof; no condition. -/
import Derived.Test.YtkhonmhnchdpkaaGreatP33
set_option maxRecDepth 100000
set_option maxHeartbeats 40000000
namespace Go.Proofs.YtkhonmhnchdpkaaGreat
open Go.RowKit _root_.Go.Proofs.Tryz
section
variable {w0 w w' w1:World} {lab lab' lab1:Nat->Nat} {P P':EP} {s s':Zq} {t i:Nat} {raw:Zv} {g:Qw}
def Nf (w:World) (d:Zv) (y:DX):Prop:=w.ownsRow 0 51 1 y.va d.args.length (d.args.map (Value.float .f64))/\w.ownsRow 0 53 2 y.vr d.reads.length (Yh d.reads)/\w.ownsRow 0 53 2 y.vw d.writes.length (Yh d.writes)/\w.ownsRow 0 51 1 y.vo d.out.length (d.out.map (Value.float .f64))
theorem Nf.mod {d:Zv} {y:DX} (h:Nf w d y) (m:Ze [] w w'):Nf w' d y:=⟨Ye h.1 m,Ye h.2.1 m,Ye h.2.2.1 m,Ye h.2.2.2 m⟩
theorem Z8.offRow {n0 z n k:Nat} {ty:TypeId} {xs ys:List Value} {v u:Value} (h:Z8 n0 ty z n xs v w) (ht:ty≠50) (hu:w.ownsRow 0 50 19 u k ys) (m:Ze u.ownBlock.toList w w'):Z8 n0 ty z n xs v w':=by
 rcases hu.2 with ⟨e,_⟩|⟨g,cap,cur,e,_,hg,_⟩
 ·rw [e] at m;exact h.mod (by simpa [Value.ownBlock] using m)
 ·rw [e] at m;exact h.far hg ht (by simpa [Value.ownBlock] using m)
theorem V4.offRow {n0 k:Nat} {ys:List Value} {u:Value} {d:Zv} {y:DX} (h:V4 n0 d y w) (hu:w.ownsRow 0 50 19 u k ys) (m:Ze u.ownBlock.toList w w'):V4 n0 d y w':=
 ⟨h.1.offRow (by decide) hu m,h.2.1.offRow (by decide) hu m,h.2.2.1.offRow (by decide) hu m,h.2.2.2.offRow (by decide) hu m⟩
theorem V4.weak {n0 n1:Nat} {d:Zv} {y:DX} (h:V4 n1 d y w) (hn:n0<=n1):V4 n0 d y w:=⟨Z8.weak h.1 hn,Z8.weak h.2.1 hn,Z8.weak h.2.2.1 hn,Z8.weak h.2.2.2 hn⟩
theorem Ux.push {n0:Nat} {l:List Zv} {es:List DX} {u v:Value} {d:Zv} {y:DX} {wa:World} (h:Ux w n0 l es u) (m:Ze [] w wa) (hy:V4 n0 d y wa) (hn:n0<=wa.heap.size) (hg:wa.grownBy w' u.ownBlock)
  (ho:w'.ownsRow 0 50 19 v (l.length+1) (Qq l es++Z5 d y)) (hat:v.ownBlock=u.ownBlock\/v.ownBlock=some wa.heap.size):Ux w' n0 (l++[d]) (es++[y]) v:=by
 have hr:=Ye h.row m;have mg:Ze u.ownBlock.toList wa w':=(Zr_ _ _).grown hg (λ g hg=>.inl (Option.mem_toList.2 hg));refine ⟨by simp [h.len],?_,λ g hgv=>?_,λ k hk=>?_⟩
 ·rw [Bm _ _ _ _ h.len,List.length_append];exact ho
 ·rcases hat with e|e
  ·rw [e] at hgv;exact h.own g hgv
  ·rw [e] at hgv;simp at hgv;omega
 ·have hk':k < l.length\/k=l.length:=by simp at hk;omega
  rcases hk' with hk'|rfl
  ·rw [Q8 hk',Q8 (by rw [h.len];exact hk')];exact ((h.rows k hk').mod m).offRow hr mg
  ·rw [Uk];have e:=Uk (l:=es) (x:=y) (d:=X0);rw [h.len] at e;rw [e];exact hy.offRow hr mg
theorem Kj {P:Program} {K:Value->World->Prop} {v:Value} {w:World} (h:K v w):Jy P K (.ok (.value v) w):=h
theorem zero85 (w:World):(zeroValue 85).run Tryz.prog w=.ok .nilIface w:=by kernel_rfl
def DeedsP (w:World) (l:List Zv) (e:Ending) (w':World):Prop:=∃ u es,e=.returned u/\Ux w' w.heap.size l es u/\Ze [] w w'
def Hr (pk mb ix qk:Nat) (ti:TypeId):Nat->Value->World->Prop
 |0,v,_=>v=.map (some mb)
 |1,v,_=>v=.pointer (some ⟨pk,0,none⟩)
 |2,v,_=>v=.pointer (some ⟨pk,0,none⟩)
 |3,v,_=>v=.pointer (some ⟨pk,3,none⟩)
 |4,v,_=>v=.int .i64 ix
 |5,v,_=>v=.pointer (some ⟨pk,0,none⟩)
 |6,v,_=>v=.pointer (some ⟨pk,0,none⟩)
 |7,v,_=>v=.pointer (some ⟨pk,2,none⟩)
 |8,v,_=>v=.iface ti (.pointer (some ⟨qk,0,none⟩))
 |_,_,_=>True
theorem Lv (pk mb ix qk:Nat) (ti:TypeId) (i:Nat) (v:Value) (w w':World) (h:Hr pk mb ix qk ti i v w) (_:Ze [] w w'):Hr pk mb ix qk ti i v w':=by
 match i,h with
 |0,h=>exact h
 |1,h=>exact h
 |2,h=>exact h
 |3,h=>exact h
 |4,h=>exact h
 |5,h=>exact h
 |6,h=>exact h
 |7,h=>exact h
 |8,h=>exact h
 |i+9,h=>trivial
theorem Tn (pk mb ix qk:Nat) (ti:TypeId) (i:Nat) (h:9<=i) (v:Value) (w:World):Hr pk mb ix qk ti i v w:=by
 match i,h with
 |j+9,_=>trivial
def Bk (_ n0 qk:Nat) (ti:TypeId) (raw told:Zv) (dx:DX):Nat->Value->World->Prop
 |0,v,_=>v=.agg (Z5 raw dx).toArray
 |1,v,_=>v=.iface ti (.pointer (some ⟨qk,0,none⟩))
 |2,v,w=>Pz n0 told v w
 |3,v,w=>P8 n0 raw dx told v w
 |_,_,_=>True
theorem To (n8 n0 qk:Nat) (ti:TypeId) (raw told:Zv) (dx:DX) (i:Nat) (v:Value) (w w':World) (h:Bk n8 n0 qk ti raw told dx i v w) (m:Ze [] w w'):Bk n8 n0 qk ti raw told dx i v w':=by
 match i,h with
 |0,h=>exact h
 |1,h=>exact h
 |2,h=>exact h.mod m
 |3,h=>exact h.mod m
 |i+4,h=>trivial
theorem Nz (n8 n0 qk:Nat) (ti:TypeId) (raw told:Zv) (dx:DX) (i:Nat) (h:4<=i) (v:Value) (w:World):Bk n8 n0 qk ti raw told dx i v w:=by
 match i,h with
 |j+4,_=>trivial
theorem deeds_c (h:Yu w0 w lab P s) (k:Ym s) (hL:s.Len) (hn:s.txs.length < 1000000000):Calls Tryz.prog 10 #[Xs P.x] w (DeedsP w s.view):=by
 obtain ⟨tg,tc,hvt,_,tgl,hT⟩:=h.row;have x13:=(h.xc 13 (u:=P.vt) rfl).1;have x14:=(h.xc 14 (u:=P.vd) rfl).1;have hvd:=h.deeds.row.row;have hdl:(s.txs.map (·.raw)).length=s.txs.length:=by simp
 rw [hdl] at hvd;obtain ⟨ad,dc,hd⟩:=Zo hvd;rw [hd] at x14;rw [hvt] at x13;have lx:=h.xlt;obtain ⟨nt,hnt⟩:∃ z,z=s.ths.length:=⟨_,rfl⟩;obtain ⟨nd,hnd⟩:∃ z,z=s.txs.length:=⟨_,rfl⟩;obtain ⟨px,hpx⟩:∃ z,z=P.x:=⟨_,rfl⟩;rw [<-hnt,<-hpx] at x13;rw [<-hnd,<-hpx] at x14;rw [<-hpx] at lx;unfold Xs;rw [<-hpx];have hmk:=λ w=>run_makeMap (P:=Tryz.prog) 82 w;have H:=Zh_ h;have HK:=Zh_ k;have HLN:=Zh_ hL;have HN:=Zh_ hn;have HNT:=Zh_ hnt;have HND:=Zh_ hnd;have HPX:=Zh_ hpx;have HD:=Zh_ hd;have HT:=Zh_ hT;have HVD:=Zh_ hvd;have h8:nt<=8:=by rw [hnt];exact h.n8
 have hnb:nd < 1000000000:=by rw [hnd];exact hn
 clear h k hL hn hvt hnt hnd hpx hd hvd hdl hT;go_enter func10,ntmps10;go_wp2_with fail;obtain ⟨mb,hmb⟩:∃ z,z=w.heap.size:=⟨_,rfl⟩;rw [<-hmb];have HMB:=Zh_ hmb;have hF0:=Zh_ (show Qt (w.alloc (.map #[] 0)) mb 0 (Un P s 0) by rw [hmb];exact Qt.made w);have hM0:=Zh_ (show Ze [] w (w.alloc (.map #[] 0)) from (Zr_ _ _).alloc _);clear hmb hmk
 go_loopw [17] (λ i wr=>∃ q:Nat,q<=nt/\i=.int .i64 q/\(∃ n,n<=q/\Qt wr mb n (Un P s q))/\Ze [] w wr) (λ i _=>nt - (intOf i).toNat)
 case atStart=>exact ⟨0,by omega,rfl,⟨0,by omega,hF0.out⟩,hM0.out⟩
 case round=>
  obtain ⟨q,hq,rfl,⟨n,hn,hF⟩,m⟩:=hrel
  by_cases hlt:q < nt
  ·have d4:decide ((q:Int) < nt)=true:=decide_eq_true (by omega);have hqt:q < s.ths.length:=by rw [<-HNT.out];exact hlt
   have hE:=H.out.quiet m Z1;have ct:=Zy m tgl (by simp) (HT.out q hqt);unfold Xs at ct;obtain ⟨pk,hpk⟩:∃ z,z=P.kt q:=⟨_,rfl⟩;rw [<-hpk] at ct;have c2:=(hE.kc hqt 2 (u:=P.gv q) rfl).1;have c3:=(hE.kc hqt 3 (u:=.int .i64 (P.ai q)) rfl).1;have lk:=hE.klt hqt;rw [<-hpk] at c2 c3 lk;have G:=hE.go q hqt;have HF:=Zh_ hF;have HM:=Zh_ m;have HPK:=Zh_ hpk;clear hF m hpk hE;obtain ⟨hc,hgo⟩|⟨ix,x,g,hc,_,_,hgo⟩:=HK.out.goes.goer hqt
   ·have hg:P.gv q=.nilIface:=by rw [hgo] at G;exact G
    rw [hg] at c2;have e:Un P s (q+1)=Un P s q:=by
     show (match (s.th q).cur with|none=>Un P s q|some i=>J1 (Un P s q) i (P.gv q))=_;rw [hc]
    have HE:=Zh_ e;clear G hgo hc hg e hqt;go_wp2_with fail;go_roundw
    case rel=>exact ⟨q+1,by omega,by go_num,⟨n,by omega,by rw [HE.out];exact HF.out⟩,HM.out⟩
    case measure=>simp [intOf];omega
   ·have hai:P.ai q=ix:=H.out.cur q ix hqt hc;rw [hai] at c3;rw [hgo] at G;obtain ⟨ti,qk,hg⟩:∃ ti qk,P.gv q=.iface ti (.pointer (some ⟨qk,0,none⟩)):=by
     cases g with
     |wr y=>obtain ⟨z,h,_⟩:=G;exact ⟨_,_,h⟩
     |rd y=>obtain ⟨z,h,_⟩:=G;exact ⟨_,_,h⟩
    rw [hg] at c2;have hix:ix < 1000000000:=by
     obtain ⟨r2,g2,x2,_⟩:=HK.out.cur q ix hqt hc;have:=(List.getElem?_eq_some_iff.1 x2).1;have:=HN.out;omega
    have e:Un P s (q+1)=J1 (Un P s q) ix (.iface ti (.pointer (some ⟨qk,0,none⟩))):=by
     show (match (s.th q).cur with|none=>Un P s q|some i=>J1 (Un P s q) i (P.gv q))=_;rw [hc,hg]
    have HE:=Zh_ e;have HIX:=Zh_ hix;have HC6:=Zh_ (show ∀ wx,Ze [] wr.drew wx->wx.cell? ⟨pk,3,none⟩=some (.int .i64 ix)/\wx.cell? ⟨pk,2,none⟩=some (.iface ti (.pointer (some ⟨qk,0,none⟩))) from
     λ wx hR=>⟨Zy (((Zr_ _ wr).drew).trans hR) lk (by simp) c3,Zy (((Zr_ _ wr).drew).trans hR) lk (by simp) c2⟩)
    clear G hgo hc hg e hqt hai hix;go_upto_region 6 with fail;refine Yt (by kernel_rfl) 9 (by rfl) (λ x y=>Ze [] x y) (Hr pk mb ix qk ti) (by kernel_rfl) (by rfl) (by kernel_rfl) (Lv pk mb ix qk ti) (λ a=>Zr_ _ _) (λ a b c h k=>h.trans k) ?_ ?_ ?_
    ·exact λ i v w' hv o ho hd=>Vb (m:=9) (by kernel_rfl) (Tn pk mb ix qk ti) ho hd
    ·intro i o hi ho
     match i,hi with
     |0,_=>
      obtain rfl:=Zo_ ho;intro a wx hR hF hO;have f3:a.eval (.tmp 3)=.map (some mb):=hO 3 (by kernel_rfl) (Zm (by kernel_rfl));have e3:=Tv_ f3;clear hF hO;go_simp;exact ⟨Zr_ _ _,rfl⟩
     |1,_=>
      obtain rfl:=Zo_ ho;intro a wx hR hF hO;have f5:a.eval (.tmp 5)=.pointer (some ⟨pk,0,none⟩):=hO 5 (by kernel_rfl) (Zm (by kernel_rfl));have e5:=Tv_ f5;clear hF hO;go_simp;exact ⟨Zr_ _ _,rfl⟩
     |2,_=>
      obtain rfl:=Zo_ ho;intro a wx hR hF hO;have f27:a.eval (.tmp 27)=.pointer (some ⟨pk,0,none⟩):=hF 27 1 _ (by kernel_rfl) rfl rfl;have e27:=Tv_ f27;clear hF hO;go_simp;exact ⟨Zr_ _ _,rfl⟩
     |3,_=>
      obtain rfl:=Zo_ ho;intro a wx hR hF hO;have f28:a.eval (.tmp 28)=.pointer (some ⟨pk,0,none⟩):=hF 28 2 _ (by kernel_rfl) rfl rfl;have e28:=Tv_ f28;clear hF hO;go_simp;exact ⟨Zr_ _ _,rfl⟩
     |4,_=>
      obtain rfl:=Zo_ ho;intro a wx hR hF hO;have f29:a.eval (.tmp 29)=.pointer (some ⟨pk,3,none⟩):=hF 29 3 _ (by kernel_rfl) rfl rfl;have e29:=Tv_ f29;clear hF hO;obtain ⟨c3,c2⟩:=HC6.out wx hR;go_simp;exact ⟨Zr_ _ _,rfl⟩
     |5,_=>
      obtain rfl:=Zo_ ho;intro a wx hR hF hO;have f5:a.eval (.tmp 5)=.pointer (some ⟨pk,0,none⟩):=hO 5 (by kernel_rfl) (Zm (by kernel_rfl));have e5:=Tv_ f5;clear hF hO;go_simp;exact ⟨Zr_ _ _,rfl⟩
     |6,_=>
      obtain rfl:=Zo_ ho;intro a wx hR hF hO;have f31:a.eval (.tmp 31)=.pointer (some ⟨pk,0,none⟩):=hF 31 5 _ (by kernel_rfl) rfl rfl;have e31:=Tv_ f31;clear hF hO;go_simp;exact ⟨Zr_ _ _,rfl⟩
     |7,_=>
      obtain rfl:=Zo_ ho;intro a wx hR hF hO;have f32:a.eval (.tmp 32)=.pointer (some ⟨pk,0,none⟩):=hF 32 6 _ (by kernel_rfl) rfl rfl;have e32:=Tv_ f32;clear hF hO;go_simp;exact ⟨Zr_ _ _,rfl⟩
     |8,_=>
      obtain rfl:=Zo_ ho;intro a wx hR hF hO;have f33:a.eval (.tmp 33)=.pointer (some ⟨pk,2,none⟩):=hF 33 7 _ (by kernel_rfl) rfl rfl;have e33:=Tv_ f33;clear hF hO;obtain ⟨c3,c2⟩:=HC6.out wx hR;go_simp;exact ⟨Zr_ _ _,rfl⟩
     |j+9,hh=>omega
    ·intro vs w5 hR hv;have m5:Ze [] wr w5:=((Zr_ _ wr).drew).trans hR;have e26:vs 0=.map (some mb):=hv 0 (by decide);have e30:vs 4=.int .i64 ix:=hv 4 (by decide);have e34:vs 8=.iface ti (.pointer (some ⟨qk,0,none⟩)):=hv 8 (by decide);obtain ⟨w6,hup,F6,D6⟩:=(HF.out.mod m5 (by simp)).set (t:=82) (e:=85) underlying82 (by unfold maxLen;omega) (k:=(ix:Int)) (by
      show (decide (IntKind.i64.min<=(ix:Int))&&decide ((ix:Int)<=IntKind.i64.max))=true;have e1:IntKind.i64.min=-9223372036854775808:=by decide
      have e2:IntKind.i64.max=9223372036854775807:=by decide
      have:=HIX.out;rw [e1,e2];simp;omega) (.iface ti (.pointer (some ⟨qk,0,none⟩)))
     have HF6:=Zh_ (F6.mono (n':=q+1) (by split <;> omega));have HD6:=Zh_ ((HM.out.trans m5).then D6 (λ j hj=>.inr (by simp at hj;subst hj;rw [HMB.out];exact Nat.le_refl _)));clear hv hR m5 F6 D6;simp only [Xb,List.take_succ_cons,List.take_zero,Act.put,e26,e30,e34];go_simp;go_wp2_with fail;go_roundw
     case rel=>exact ⟨q+1,by omega,by go_num,⟨q+1,by omega,by rw [HE.out];exact HF6.out⟩,HD6.out⟩
     case measure=>simp [intOf];omega
  ·have d4:decide ((q:Int) < nt)=false:=decide_eq_false (by omega);obtain rfl:q=nt:=by omega
   have y14:=Zy m lx (by simp) x14;have ly:px < wr.heap.size:=Nat.lt_of_lt_of_le lx m.size;have HF1:=Zh_ hF;have HM1:=Zh_ m;clear hF m x13 x14 hF0 hM0;go_wp2_with fail
   go_loopw [41,6] (λ i o wx=>∃ z:Nat,z<=nd/\i=.int .i64 z/\(∃ es,Ux wx w.heap.size (s.view.take z) es o)/\Ze [] w wx/\Qt wx mb n (Un P s q)) (λ i o _=>nd - (intOf i).toNat)
   case atStart=>exact ⟨0,by omega,rfl,⟨[],Ux.nil _ _⟩,HM1.out,HF1.out⟩
   case round=>
    obtain ⟨z,hz,rfl,hO,m,hF⟩:=hrel
    by_cases hlt:z < nd
    ·obtain ⟨es,hO⟩:=hO;have d5:decide ((z:Int) < nd)=true:=decide_eq_true (by omega);have hE:=H.out.quiet m Z1;have hzt:z < s.txs.length:=by rw [<-HND.out];exact hlt
     obtain ⟨dg,dc2,hvd,hdl,_,hrow⟩:=hE.deedCell hzt;have had:=HD.out.symm.trans hvd;simp only [Value.slice.injEq,true_and] at had;obtain ⟨rfl,rfl⟩:=had;obtain ⟨raw,hraw⟩:∃ r,r=(s.txs.map (·.raw)).getD z Qc:=⟨_,rfl⟩;obtain ⟨dx,hdx⟩:∃ r,r=P.es.getD z X0:=⟨_,rfl⟩;have hle:=hE.deeds.len;have hcells:∀ j v,(Z5 raw dx).toArray.toList[j]? =some v->wr.cell? ((⟨dg,z * 19,none⟩:Addr).add j)=some v:=by
      intro j v hj;rw [Br];have hj19:j < 19:=by
       have:=(List.getElem?_eq_some_iff.1 hj).1;simpa [Z5] using this
      rw [hrow.cellAt (z * 19+j) (by omega),Bl hle (by simp;omega) hj19,<-hraw,<-hdx];simpa using hj
     obtain ⟨zt,hzt'⟩:∃ r,r=s.txs.length:=⟨_,rfl⟩;obtain ⟨cs,hcs⟩:∃ r,r=(Z5 raw dx).toArray:=⟨_,rfl⟩;have hrx:=hE.deeds.rows z (by simp;exact hzt);rw [<-hraw,<-hdx] at hrx;have hone:∀ u∈cs.toList,u.oneCell'=true:=by rw [hcs];exact λ u hu=>Vk raw dx (Yo hrx.ra.row) (Yo hrx.rr.row) (Yo hrx.rw.row) (Yo hrx.ro.row) u (by simpa using hu)
     have hcz:cs.size=19:=by rw [hcs];rfl
     rw [<-hcs] at hcells;have HO:=Zh_ hO;have HM:=Zh_ m;have HF:=Zh_ hF;have HRAW:=Zh_ hraw;have HDX:=Zh_ hdx;have HCS:=Zh_ hcs;have HCZ:=Zh_ hcz;have HONE:=Zh_ hone;have HCE:=Zh_ hcells;have HZT:=Zh_ hzt;have HRX:=Zh_ (show Nf wr raw dx from ⟨hrx.ra.row,hrx.rr.row,hrx.rw.row,hrx.ro.row⟩);clear hO m hF hE hzt hrow hraw hdx hle hcells hcs hone hcz hrx hzt' hvd hdl;obtain ⟨n8,hn8⟩:∃ r,r=wr.heap.size:=⟨_,rfl⟩;go_upto_region 11 with fail;refine wp_region_lit ?_;refine Y3 (.int .i64 z) rfl (by go_simp) ?_;refine Y3 (.pointer (some ⟨dg,z * 19,none⟩)) rfl (by go_simp) ?_;refine J0 rfl 50 _ rfl ⟨dg,z * 19,none⟩ rfl cs _ HCE.out underlying50 rfl (by rw [HCZ.out];kernel_rfl) ?_;refine Yj rfl ?_;go_simp;refine Kj ?_;have B8:(wr.alloc (.cells #[.int .i64 0,.int .i64 0,.int .i64 0,.int .i64 0,.slice none 0 0,.int .i64 0,.int .i64 0,.slice none 0 0,.slice none 0 0,.slice none 0 0,.int .i64 0,.int .i64 0,.int .i64 0,.int .i64 0,.int .i64 0,.int .i64 0,.int .i64 0,.int .i64 0,.int .i64 0] 50)).heap[n8]? =some (.cells Ya 50 (0,0)):=by rw [hn8];exact Zc _ _
     rw [<-hn8];have HB8:=Zh_ B8;have HN8:=Zh_ hn8;have HM8:=Zh_ (show Ze [] wr (wr.alloc (.cells #[.int .i64 0,.int .i64 0,.int .i64 0,.int .i64 0,.slice none 0 0,.int .i64 0,.int .i64 0,.slice none 0 0,.slice none 0 0,.slice none 0 0,.int .i64 0,.int .i64 0,.int .i64 0,.int .i64 0,.int .i64 0,.int .i64 0,.int .i64 0,.int .i64 0,.int .i64 0] 50)) from (Zr_ _ _).alloc _);clear B8 hn8;generalize wr.alloc (.cells #[.int .i64 0,.int .i64 0,.int .i64 0,.int .i64 0,.slice none 0 0,.int .i64 0,.int .i64 0,.slice none 0 0,.slice none 0 0,.slice none 0 0,.int .i64 0,.int .i64 0,.int .i64 0,.int .i64 0,.int .i64 0,.int .i64 0,.int .i64 0,.int .i64 0,.int .i64 0] 50)=w8 at *
     refine Y3 (.int .i64 z) rfl (by go_simp) ?_;refine wpList_store_row rfl 50 _ _ rfl n8 cs rfl rfl 50 _ HB8.out (by rw [HCZ.out];kernel_rfl) (by rw [HCZ.out];rfl) (by rw [Array.all_eq_true_iff_forall_mem];intro u hu;exact HONE.out u (by simpa using hu)) ?_;have B9:(w8.setRow n8 cs).heap[n8]? =some (.cells cs 50 (0,0)):=Y0 HB8.out;have m89:Ze [] wr (w8.setRow n8 cs):=HM8.out.setRow _ _ (.inr (by rw [HN8.out];exact Nat.le_refl _));have HB9:=Zh_ B9;have HM9:=Zh_ m89;clear B9 m89 HB8 HM8;generalize w8.setRow n8 cs=w9 at *
     obtain ⟨ov,hov⟩:∃ r,r=Un P s q z:=⟨_,rfl⟩;have hl:=((HF.out.mod HM9.out (by simp)).look (t:=82) (e:=85) underlying82 zero85 (k:=(z:Int)) (by
       show (decide (IntKind.i64.min<=(z:Int))&&decide ((z:Int)<=IntKind.i64.max))=true;have e1:IntKind.i64.min=-9223372036854775808:=by decide
       have e2:IntKind.i64.max=9223372036854775807:=by decide
       rw [e1,e2];simp;omega))
     rw [<-hov] at hl;have HOV:=Zh_ hov;clear hov;obtain ⟨dv,hdv⟩:∃ r,r=s.view.getD z Qc:=⟨_,rfl⟩;have HDV:=Zh_ hdv;have HL:=Zh_ hl;clear hdv;go_upto_if 52 with fail;clear hl
     go_cut [] (λ wx=>∃ y,wx.heap[n8]? =some (.cells (Z5 dv y).toArray 50 (0,0))/\Nf wx dv y/\Ze [] wr wx)
     case first=>
      have hview:∀ x,s.txs[z]? =some x->dv=x.deed:=by
       intro x hx;rw [HDV.out];unfold Zq.view;simp [List.getD_eq_getElem?_getD,hx]
      have hrawe:∀ x,s.txs[z]? =some x->raw=x.raw:=by
       intro x hx;rw [HRAW.out];simp [List.getD_eq_getElem?_getD,hx]
      rcases HK.out.under (P:=P) HZT.out with ⟨r0,hx,hu⟩|⟨r0,g,t,hx,ht,hc,hgo,hT',hu⟩
      ·rw [<-HNT.out,<-HOV.out] at hu;subst hu;have e1:=hview _ hx;have e2:=hrawe _ hx;have HE1:=Zh_ (show dv=raw by rw [e1,e2];rfl);clear e1 e2 hx hview hrawe;go_wp2_with fail;go_meet;exact ⟨dx,by rw [HE1.out,<-HCS.out];exact HB9.out,by rw [HE1.out];exact HRX.out.mod HM9.out,HM9.out⟩
      ·rw [<-HNT.out,<-HOV.out] at hu;have e2:=hrawe _ hx;have hE9:=(H.out.quiet HM.out Z1).quiet HM9.out Z1;obtain ⟨ti,qk,f,egv,hme1,hcf1,hDC⟩:=hE9.deedC ht hgo hT';rw [egv] at hu;subst hu;obtain ⟨told,htold⟩:∃ r,r=g.told:=⟨_,rfl⟩;have HE1:=Zh_ (show dv=raw.join told by rw [hview _ hx,e2,htold];rfl);obtain ⟨n0,hn0⟩:∃ r,r=w9.heap.size:=⟨_,rfl⟩;have HN0:=Zh_ (show n0<=w9.drew.heap.size from Nat.le_of_eq hn0);have HN09:=Zh_ hn0;have HB8:=Zh_ (show ∀ wx,Ze [] w9.drew wx->wx.heap[n8]? =some (.cells (Z5 raw dx).toArray 50 (0,0)) from λ wx hR=>by rw [<-HCS.out];exact (((Zr_ _ w9).drew).trans hR).at HB9.out (by simp));have HDC:=Zh_ (show ∀ wx,Ze [] w9.drew wx->Calls Tryz.prog f #[.pointer (some ⟨qk,0,none⟩)] wx (L9 wx told) from λ wx hR=>by rw [htold];exact hDC wx (((Zr_ _ w9).drew).trans hR));have HE9:=Zh_ hE9;clear e2 hx hview hrawe hE9 hDC htold hgo hT' ht hc egv hn0;go_upto_region 14 with fail
       go_cut [] (λ wx=>∃ y,wx.heap[n8]? =some (.cells (Z5 dv y).toArray 50 (0,0))/\Nf wx dv y/\Ze [] wr wx)
       case first=>
        refine Yt (by kernel_rfl) 4 (by rfl) (λ x y=>Ze [] x y) (Bk n8 n0 qk ti raw told dx) (by kernel_rfl) (by rfl) (by kernel_rfl) (To n8 n0 qk ti raw told dx) (λ a=>Zr_ _ _) (λ a b c h k=>h.trans k) ?_ ?_ ?_
        ·exact λ i v w' hv o ho hd=>Vb (m:=4) (by kernel_rfl) (Nz n8 n0 qk ti raw told dx) ho hd
        ·intro i o hi ho
         match i,hi with
         |0,_=>
          obtain rfl:=Zo_ ho;intro a wx hR hF hO;have f8:a.eval (.tmp 8)=.pointer (some ⟨n8,0,none⟩):=hO 8 (by kernel_rfl) (Zm (by kernel_rfl));have e8:=Tv_ f8;clear hF hO;exact Uj 50 _ rfl n8 f8 50 (Z5 raw dx).toArray (0,0) _ (HB8.out wx hR) underlying50 rfl (by rw [show (Z5 raw dx).toArray.size=19 from rfl];kernel_rfl) ⟨Zr_ _ _,rfl⟩
         |1,_=>
          obtain rfl:=Zo_ ho;intro a wx hR hF hO;have f9:a.eval (.tmp 9)=.iface ti (.pointer (some ⟨qk,0,none⟩)):=hO 9 (by kernel_rfl) (Zm (by kernel_rfl));have e9:=Tv_ f9;clear hF hO;go_simp;exact ⟨Zr_ _ _,rfl⟩
         |2,_=>
          obtain rfl:=Zo_ ho;intro a wx hR hF hO;have f54:a.eval (.tmp 54)=.iface ti (.pointer (some ⟨qk,0,none⟩)):=hF 54 1 _ (by kernel_rfl) rfl rfl;have e54:=Tv_ f54;clear hF hO;have hme:=hme1;have hcf:=hcf1;go_simp;refine Calls.mono (HDC.out wx hR) ?_;rintro e w' ⟨y,rfl,a1,a2,a3,a4,m⟩;have le:=Nat.le_trans HN0.out hR.size;exact ⟨_,rfl,m,y,rfl,a1.weak le,a2.weak le,a3.weak le,a4.weak le⟩
         |3,_=>
          obtain rfl:=Zo_ ho;intro a wx hR hF hO;have f53:a.eval (.tmp 53)=.agg (Z5 raw dx).toArray:=hF 53 0 _ (by kernel_rfl) rfl rfl;have e53:=Tv_ f53;have e55:Pz n0 told (a.eval (.tmp 55)) wx:=hF 55 2 _ (by kernel_rfl) rfl rfl;clear hF hO;obtain ⟨y,q55,hr⟩:=e55;replace q55:a.tmps[55]?.getD undef=_:=(show a.tmps[55]?.getD undef=a.eval (.tmp 55) by simp [Act.eval]).trans q55;have HR:=Zh_ hr;have hj:=Tf raw told dx y (Yo HR.out.1.1) (Yo HR.out.2.1.1) (Yo HR.out.2.2.1.1) (Yo HR.out.2.2.2.1) wx;clear hr;go_simp;refine Calls.mono hj ?_;rintro e w' ⟨rfl,m⟩;exact ⟨_,rfl,m,y,rfl,HR.out.mod m⟩
         |j+4,hh=>omega
        ·intro vs wB hR hv;obtain ⟨y,e56,hy⟩:P8 n0 raw dx told (vs 3) wB:=hv 3 (by decide);have KB:=Zh_ (HB8.out wB hR);have HY:=Zh_ hy;have MB:=Zh_ (HM9.out.trans (((Zr_ _ w9).drew).trans hR));have ONE:=Zh_ (Vk (raw.join told) (dx.join y) (Yo hy.1.1) (Yo hy.2.1.1) (Yo hy.2.2.1.1) (Yo hy.2.2.2.1));clear hR hv hy;simp only [Xb,List.take_succ_cons,List.take_zero,Act.put,e56];go_simp;refine wpList_store_row rfl 50 _ _ rfl n8 (Z5 (raw.join told) (dx.join y)).toArray rfl rfl 50 _ KB.out (by rw [show (Z5 (raw.join told) (dx.join y)).toArray.size=19 from rfl];kernel_rfl) rfl (by rw [Array.all_eq_true_iff_forall_mem];intro u hu;exact ONE.out u (by simpa using hu)) ?_;go_wp2_with fail;go_meet;have mm:Ze [n8] wB (wB.setRow n8 (Z5 (raw.join told) (dx.join y)).toArray):=(Zr_ _ _).setRow _ _ (.inl (by simp));refine ⟨dx.join y,by rw [HE1.out];exact Y0 KB.out,?_,MB.out.then mm (λ j hj=>.inr (by simp at hj;subst hj;rw [HN8.out];exact Nat.le_refl _))⟩;rw [HE1.out];exact ⟨(HY.out.1.far KB.out (by decide) mm).1,(HY.out.2.1.far KB.out (by decide) mm).1,(HY.out.2.2.1.far KB.out (by decide) mm).1,(HY.out.2.2.2.far KB.out (by decide) mm).1⟩
       case rest=>
        obtain ⟨y,B,R,M⟩:=hcut;generalize wc=w10 at *
        have hE:=H.out.quiet (HM.out.trans M) Z1;have x12:=(hE.xc 12 (u:=.pointer (some ⟨P.r,0,none⟩)) rfl).1;have lx2:=hE.xlt;rw [<-HPX.out] at x12 lx2;obtain ⟨rf,ro,hR0⟩:=hE.rnd;obtain ⟨pr,hpr⟩:∃ r,r=P.r:=⟨_,rfl⟩;rw [<-hpr] at x12 hR0;have C26:=Bw (o:=ro) (Za hR0 rfl);have y18:w10.cell? ⟨n8,18,none⟩=some (.int .i64 y.til):=Za B rfl;have z18:w10.frozen? ⟨n8,18,none⟩=false:=Zb B;have l8:=lt_of_block B;have HB10:=Zh_ B;have HR10:=Zh_ R;have HM10:=Zh_ M;clear hE hR0 hpr B R M;go_wp2_with fail;refine C26.mono ?_;rintro e w11 ⟨rfl,rfl⟩;clear C26;go_wp2_with fail;go_meet;have mm:Ze [n8] w10 (w10.setCell ⟨n8,18,none⟩ (.int .i64 ro)):=(Zr_ _ _).setCell _ _ (.inl (by simp));have ft:∀ {ty:TypeId} {zz nn:Nat} {xs:List Value} {v:Value},w10.ownsRow 0 ty zz v nn xs->ty≠50->(w10.setCell ⟨n8,18,none⟩ (.int .i64 ro)).ownsRow 0 ty zz v nn xs:=λ hr ht=>(Z8.far (n0:=0) ⟨hr,λ _ _=>Nat.zero_le _⟩ HB10.out ht mm).1;exact ⟨{y with til:=ro},Zd _ HB10.out,⟨ft HR10.out.1 (by decide),ft HR10.out.2.1 (by decide),ft HR10.out.2.2.1 (by decide),ft HR10.out.2.2.2 (by decide)⟩,HM10.out.then mm (λ j hj=>.inr (by simp at hj;subst hj;rw [HN8.out];exact Nat.le_refl _))⟩
     case rest=>
      obtain ⟨y,B,R,M⟩:=hcut;generalize wc=w11 at *
      have hlen:Dj dv:=by
       rw [HDV.out];refine HLN.out.view HK.out _ (Kl ?_);unfold Zq.view;simp;exact HZT.out
      have C27:=copied_c hlen R.1 R.2.1 R.2.2.1 R.2.2.2;have HB11:=Zh_ B;have HM11:=Zh_ M;clear B R M hlen HL;go_upto_region 16 with fail;obtain ⟨i0,z0,hi0,hz0,hz1,hz2,hz3⟩:=info50;refine wp_region_lit ?_;refine Yj rfl ?_;go_simp;refine Kj ?_;refine wpList_load_row rfl 50 _ rfl n8 rfl 50 (Z5 dv y).toArray (0,0) _ HB11.out underlying50 rfl (by rw [show (Z5 dv y).toArray.size=19 from rfl];kernel_rfl) ?_;refine Yj rfl ?_;go_simp;refine Calls.mono C27 ?_;rintro e w12 ⟨y2,rfl,T2,m12,_⟩;refine ⟨_,rfl,?_⟩;refine Yj rfl (Qy 38 50 (.tmp 65) rfl (Z5 dv y2).toArray rfl i0 z0 underlying38 hi0 hz0 hz1 (by show 0 < 19;omega) (by show 19<=1000;omega) ?_);have HT2:=Zh_ T2;have HM2:=Zh_ (HM11.out.trans m12);have HM12:=Zh_ ((HM.out.trans HM11.out).trans m12);have HW11:=Zh_ (HM.out.trans HM11.out);have hv:s.view.length=nd:=by unfold Zq.view;simp;rw [HND.out]
      have hzl:(s.view.take z).length=z:=by rw [List.length_take,hv];omega
      have hrow:=Ye HO.out.row ((HM11.out.trans m12).alloc (.cells (Z5 dv y2).toArray 50));rw [hzl] at hrow;have ONE:=Vk dv y2 (Yo T2.1.1) (Yo T2.2.1.1) (Yo T2.2.2.1.1) (Yo T2.2.2.2.1);refine Yj rfl (Xh (.tmp 63) (.tmp 66) 38 rfl 0 50 i0 z0 19 216 underlying38 hi0 hz0 hz1 hz2 hz3 (by decide) _ z (Qq (s.view.take z) es) rfl hrow ⟨w12.heap.size,0,none⟩ 1 1 (Z5 dv y2) rfl rfl (World.news_of_block (Zc w12 _)) ONE (by unfold maxLen;omega) (by omega) (Nat.zero_le _) ?_);intro v' w13 ho hg hat;have HOO:=Zh_ ho;have HG:=Zh_ hg;have HAT:=Zh_ hat;have HROW:=Zh_ hrow;have HZL:=Zh_ hzl;have HV:=Zh_ hv;obtain ⟨gv,cv,hvv,_⟩:=Yd ho (by omega);have HVV:=Zh_ hvv;rw [hvv];clear C27 T2 m12 hrow ONE ho hg hat hzl hv hvv hi0 hz0 hz1 hz2 hz3;refine Yj rfl ?_;go_simp;refine Kj ?_;go_wp2_with fail;go_roundw
      case rel=>
       have hu:=HROW.out;have mg:Ze _ _ w13:=(Zr_ _ _).grown HG.out (λ g hg=>.inl (Option.mem_toList.2 hg));have ht:s.view.take (z+1)=s.view.take z++[dv]:=by
        rw [List.take_succ_eq_append_getElem (by rw [HV.out];exact hlt),HDV.out];simp [List.getD_eq_getElem?_getD,HV.out,hlt]
       refine ⟨z+1,by omega,by go_num,⟨es++[y2],?_⟩,?_,?_⟩
       ·rw [ht,<-HVV.out];refine HO.out.push (HM2.out.alloc _) ((HT2.out.weak HW11.out.size).mod ((Zr_ _ _).alloc _)) (Nat.le_trans HM12.out.size (by simp)) HG.out (by rw [HZL.out];exact HOO.out) HAT.out
       ·refine (HM12.out.alloc _).then mg (λ j hj=>.inr ?_)
        exact HO.out.own j (Option.mem_toList.1 hj)
       ·have hF:=HF.out.mod (HM2.out.alloc (.cells (Z5 dv y2).toArray 50)) (by simp);refine hF.mod mg (λ hm=>?_);have hty:=Yc hu (Option.mem_toList.1 hm);rw [Gt hF] at hty;cases hty
      case measure=>simp [intOf];omega
    ·have d5:decide ((z:Int) < nd)=false:=decide_eq_false (by omega);obtain rfl:z=nd:=by omega
     have HO:=Zh_ hO;have HM:=Zh_ m;have hv:s.view.take z=s.view:=List.take_of_length_le (by unfold Zq.view;simp;rw [HND.out];omega);have HV:=Zh_ hv;clear hO m hF hv;go_wp2;go_ret;obtain ⟨es,h⟩:=HO.out;rw [HV.out] at h;exact ⟨_,es,rfl,h,HM.out⟩
end
section
attribute [local go_sem] Zj
variable {w0 w w' w1:World} {lab lab' lab1:Nat->Nat} {P P':EP} {s s':Zq} {t i:Nat}
def StateP (w:World) (l:List Nat) (e:Ending) (w':World):Prop:=∃ u,e=.returned u/\Xm w.heap.size l u w'/\Ze [] w w'
def Hi (px ma:Nat) (st:Int):Nat->Value->World->Prop
 |0,v,_=>v=.pointer (some ⟨px,0,none⟩)
 |1,v,_=>v=.pointer (some ⟨px,0,none⟩)
 |2,v,_=>v=.pointer (some ⟨px,11,none⟩)
 |3,v,_=>v=.pointer (some ⟨ma,0,none⟩)
 |4,v,_=>v=.pointer (some ⟨px,0,none⟩)
 |5,v,_=>v=.pointer (some ⟨px,0,none⟩)
 |6,v,_=>v=.pointer (some ⟨px,5,none⟩)
 |7,v,_=>v=.pointer (some ⟨px,7,none⟩)
 |8,v,_=>v=.int .i64 2
 |9,v,_=>v=.tuple #[.int .u64 st,.int .i64 0]
 |10,v,_=>v=.tuple #[.int .u64 st,.int .i64 0]
 |11,v,_=>v=.int .u64 st
 |12,v,_=>v=.int .i64 0
 |13,v,_=>v=.int .u64 st
 |14,v,_=>v=.int .i64 0
 |_,_,_=>True
theorem Cl (px ma:Nat) (st:Int) (i:Nat) (v:Value) (w w':World) (h:Hi px ma st i v w) (_:Ze [] w w'):Hi px ma st i v w':=by
 match i,h with
 |0,h=>exact h
 |1,h=>exact h
 |2,h=>exact h
 |3,h=>exact h
 |4,h=>exact h
 |5,h=>exact h
 |6,h=>exact h
 |7,h=>exact h
 |8,h=>exact h
 |9,h=>exact h
 |10,h=>exact h
 |11,h=>exact h
 |12,h=>exact h
 |13,h=>exact h
 |14,h=>exact h
 |i+15,h=>trivial
theorem Ml (px ma:Nat) (st:Int) (i:Nat) (h:15<=i) (v:Value) (w:World):Hi px ma st i v w:=by
 match i,h with
 |j+15,_=>trivial
theorem state_c (h:Yu w0 w lab P s) (k:Ym s):Calls Tryz.prog 14 #[Xs P.x] w (StateP w s.state):=by
 have hM:=h.mem;have lx:=h.xlt;obtain ⟨px,hpx⟩:∃ z,z=P.x:=⟨_,rfl⟩;obtain ⟨ma,hma⟩:∃ z,z=P.a:=⟨_,rfl⟩;have lb2:s.mem.bad 2=0:=by
  have:=k.len;have hb:=k.cfg.b0;have ha:=k.cfg.a0;unfold Zw at this;unfold Zh.bad;rw [if_neg (by omega)]
 obtain ⟨st,hst⟩:∃ z,z=s.mem.peek 2:=⟨_,rfl⟩;obtain ⟨c0,hc0⟩:∃ z,z=s.c0:=⟨_,rfl⟩;have hc1:=k.cfg.a0;have hc256:=k.cfg.a1;rw [<-hc0] at hc1 hc256;have hX:=h.hx;unfold J6 at hX;rw [<-hpx,<-hma,<-hc0] at hX;have HX:=Zh_ (show ∀ wx,Ze [] w wx->wx.cell? ⟨px,0,none⟩=some (.int .i64 c0)/\wx.cell? ⟨px,5,none⟩=some (.int .i64 0)/\wx.cell? ⟨px,6,none⟩=some (.int .i64 1)/\wx.cell? ⟨px,7,none⟩=some (.int .i64 2)/\wx.cell? ⟨px,8,none⟩=some (.int .i64 3)/\wx.cell? ⟨px,9,none⟩=some (.int .i64 (Z4 s.c1))/\wx.cell? ⟨px,10,none⟩=some (.int .i64 (Zw c0 s.c1))/\wx.cell? ⟨px,11,none⟩=some (.pointer (some ⟨ma,0,none⟩)) from
  λ wx m=>by
   have X:=m.at hX (by simp);exact ⟨Za X rfl,Za X rfl,Za X rfl,Za X rfl,Za X rfl,Za X rfl,Za X rfl,Za X rfl⟩)
 rw [<-hpx] at lx;rw [<-hma] at hM;unfold Xs;rw [<-hpx];have HC1:=Zh_ (show ∀ wx,Ze [] w.drew wx->wx.cell? ⟨px,11,none⟩=some (.pointer (some ⟨ma,0,none⟩))/\wx.cell? ⟨px,7,none⟩=some (.int .i64 2) from
  λ wx hR=>by
   obtain ⟨_,_,_,a,_,_,_,b⟩:=HX.out wx (((Zr_ _ w).drew).trans hR);exact ⟨b,a⟩)
 have HP1:=Zh_ (show ∀ wx,Ze [] w.drew wx->Calls Tryz.prog 32 #[.pointer (some ⟨ma,0,none⟩),.int .i64 2] wx (λ e w'=>e=.returned (.tuple #[.int .u64 st,.int .i64 0])/\w'=wx) from
  λ wx hR=>by
   have:=Uu (hM.mod (((Zr_ _ w).drew).trans hR) (by simp) (by simp)) 2;rw [lb2,<-hst] at this;exact this)
 have HH:=Zh_ h;have HK:=Zh_ k;have HPX:=Zh_ hpx;have HMA:=Zh_ hma;have HST:=Zh_ hst;have HC0:=Zh_ hc0;have HM:=Zh_ hM;clear h k hpx hma hst hc0 hM hX lb2;go_enter func14,ntmps14;go_upto_region 1 with fail;refine Kv (by kernel_rfl) 15 (λ x y=>Ze [] x y) (Hi px ma st) (by kernel_rfl) (by rfl) (Cl px ma st) (λ a=>Zr_ _ _) (λ a b c h k=>h.trans k) (λ i v w' hv o ho hd=>Vb (m:=15) (by kernel_rfl) (Ml px ma st) ho hd) ?_ ?_
 ·intro i o hi ho
  match i,hi with
  |0,_=>
   obtain rfl:=Zo_ ho;intro a wx hR hF hO;have f0:a.eval (.tmp 0)=.pointer (some ⟨px,0,none⟩):=hO 0 (by kernel_rfl) (Zm (by kernel_rfl));have e0:=Tv_ f0;clear hF hO;go_simp;exact ⟨Zr_ _ _,rfl⟩
  |1,_=>
   obtain rfl:=Zo_ ho;intro a wx hR hF hO;have f10:a.eval (.tmp 10)=.pointer (some ⟨px,0,none⟩):=hF 10 0 _ (by kernel_rfl) rfl rfl;have e10:=Tv_ f10;clear hF hO;go_simp;exact ⟨Zr_ _ _,rfl⟩
  |2,_=>
   obtain rfl:=Zo_ ho;intro a wx hR hF hO;have f11:a.eval (.tmp 11)=.pointer (some ⟨px,0,none⟩):=hF 11 1 _ (by kernel_rfl) rfl rfl;have e11:=Tv_ f11;clear hF hO;go_simp;exact ⟨Zr_ _ _,rfl⟩
  |3,_=>
   obtain rfl:=Zo_ ho;intro a wx hR hF hO;have f12:a.eval (.tmp 12)=.pointer (some ⟨px,11,none⟩):=hF 12 2 _ (by kernel_rfl) rfl rfl;have e12:=Tv_ f12;clear hF hO;obtain ⟨c11,c7⟩:=HC1.out wx hR;go_simp;exact ⟨Zr_ _ _,rfl⟩
  |4,_=>
   obtain rfl:=Zo_ ho;intro a wx hR hF hO;have f0:a.eval (.tmp 0)=.pointer (some ⟨px,0,none⟩):=hO 0 (by kernel_rfl) (Zm (by kernel_rfl));have e0:=Tv_ f0;clear hF hO;go_simp;exact ⟨Zr_ _ _,rfl⟩
  |5,_=>
   obtain rfl:=Zo_ ho;intro a wx hR hF hO;have f14:a.eval (.tmp 14)=.pointer (some ⟨px,0,none⟩):=hF 14 4 _ (by kernel_rfl) rfl rfl;have e14:=Tv_ f14;clear hF hO;go_simp;exact ⟨Zr_ _ _,rfl⟩
  |6,_=>
   obtain rfl:=Zo_ ho;intro a wx hR hF hO;have f15:a.eval (.tmp 15)=.pointer (some ⟨px,0,none⟩):=hF 15 5 _ (by kernel_rfl) rfl rfl;have e15:=Tv_ f15;clear hF hO;go_simp;exact ⟨Zr_ _ _,rfl⟩
  |7,_=>
   obtain rfl:=Zo_ ho;intro a wx hR hF hO;have f16:a.eval (.tmp 16)=.pointer (some ⟨px,5,none⟩):=hF 16 6 _ (by kernel_rfl) rfl rfl;have e16:=Tv_ f16;clear hF hO;go_simp;exact ⟨Zr_ _ _,rfl⟩
  |8,_=>
   obtain rfl:=Zo_ ho;intro a wx hR hF hO;have f17:a.eval (.tmp 17)=.pointer (some ⟨px,7,none⟩):=hF 17 7 _ (by kernel_rfl) rfl rfl;have e17:=Tv_ f17;clear hF hO;obtain ⟨c11,c7⟩:=HC1.out wx hR;go_simp;exact ⟨Zr_ _ _,rfl⟩
  |9,_=>
   obtain rfl:=Zo_ ho;intro a wx hR hF hO;have f13:a.eval (.tmp 13)=.pointer (some ⟨ma,0,none⟩):=hF 13 3 _ (by kernel_rfl) rfl rfl;have e13:=Tv_ f13;have f18:a.eval (.tmp 18)=.int .i64 2:=hF 18 8 _ (by kernel_rfl) rfl rfl;have e18:=Tv_ f18;clear hF hO;go_simp;refine Calls.mono (HP1.out wx hR) ?_;rintro e w' ⟨rfl,rfl⟩;exact ⟨_,rfl,Zr_ _ _,rfl⟩
  |10,_=>
   obtain rfl:=Zo_ ho;intro a wx hR hF hO;have f19:a.eval (.tmp 19)=.tuple #[.int .u64 st,.int .i64 0]:=hF 19 9 _ (by kernel_rfl) rfl rfl;have e19:=Tv_ f19;clear hF hO;go_simp;exact ⟨Zr_ _ _,rfl⟩
  |11,_=>
   obtain rfl:=Zo_ ho;intro a wx hR hF hO;have f9:a.eval (.tmp 9)=.tuple #[.int .u64 st,.int .i64 0]:=hF 9 10 _ (by kernel_rfl) rfl rfl;have e9:=Tv_ f9;clear hF hO;go_simp;exact ⟨Zr_ _ _,rfl⟩
  |12,_=>
   obtain rfl:=Zo_ ho;intro a wx hR hF hO;have f9:a.eval (.tmp 9)=.tuple #[.int .u64 st,.int .i64 0]:=hF 9 10 _ (by kernel_rfl) rfl rfl;have e9:=Tv_ f9;clear hF hO;go_simp;exact ⟨Zr_ _ _,rfl⟩
  |13,_=>
   obtain rfl:=Zo_ ho;intro a wx hR hF hO;have f20:a.eval (.tmp 20)=.int .u64 st:=hF 20 11 _ (by kernel_rfl) rfl rfl;have e20:=Tv_ f20;clear hF hO;go_simp;exact ⟨Zr_ _ _,rfl⟩
  |14,_=>
   obtain rfl:=Zo_ ho;intro a wx hR hF hO;have f21:a.eval (.tmp 21)=.int .i64 0:=hF 21 12 _ (by kernel_rfl) rfl rfl;have e21:=Tv_ f21;clear hF hO;go_simp;exact ⟨Zr_ _ _,rfl⟩
  |j+15,hh=>omega
 ·intro vs w5 hR hv;have e3:vs 13=.int .u64 st:=hv 13 (by decide);have m5:Ze [] w w5:=((Zr_ _ w).drew).trans hR;obtain ⟨x0,_⟩:=HX.out w5 m5;have l5:px < w5.heap.size:=Nat.lt_of_lt_of_le lx m5.size;have HM5:=Zh_ m5;clear hv hR m5;simp only [Xb,Act.put,e3];go_simp;go_wp2_with fail;obtain ⟨p4,hp4⟩:∃ z,z=Z4 s.c1:=⟨_,rfl⟩;have HP4:=Zh_ hp4;clear hp4
  go_loopw [27,5] (λ i o wx=>∃ z:Nat,(z:Int)<=c0/\i=.int .i64 z/\Xm w.heap.size ((List.range z).map s.cellV) o wx/\Ze [] w wx) (λ i o _=>c0.toNat - (intOf i).toNat)
  case atStart=>exact ⟨0,by omega,rfl,⟨World.ownsRow_nil _ _ _ _,by simp [Value.ownBlock]⟩,HM5.out⟩
  case round=>
   obtain ⟨z,hz,rfl,hO,m⟩:=hrel
   by_cases hlt:(z:Int) < c0
   ·have d4:decide ((z:Int) < c0)=true:=decide_eq_true hlt;obtain ⟨y0,y5,y6,y7,y8,y9,y10,y11⟩:=HX.out wr m;have HO:=Zh_ hO;have HM6:=Zh_ m;have lx6:px < wr.heap.size:=Nat.lt_of_lt_of_le lx m.size;have HAFT:=Zh_ (λ (wx:World) (mm:Ze [] wr wx)=>HX.out wx (m.trans mm));have hME:=HM.out.mod m (by simp) (by simp);have hxp:Yz (Z4 s.c1) z=0:=Xi (by omega) (by omega) (by have:=HK.out.cfg.b0;unfold Z4;omega) (by have:=HK.out.cfg.b1;unfold Z4;omega);have hbad:s.mem.bad (Z4 s.c1+3 * z+2)=0:=by
     have:=HK.out.len;have hb:=HK.out.cfg.b0;unfold Zw at this;unfold Zh.bad Z4;rw [if_neg (by rw [<-HC0.out] at this;omega)]
    clear hO m;rw [<-HP4.out] at y9 hxp hbad;go_upto_region 6 with fail;obtain ⟨p5,hp5⟩:∃ z,z=Zw c0 s.c1:=⟨_,rfl⟩;obtain ⟨v0,hv0⟩:∃ v,v=s.mem.peek (p4+3 * z):=⟨_,rfl⟩;obtain ⟨v1,hv1⟩:∃ v,v=s.mem.peek (p4+3 * z+1):=⟨_,rfl⟩;obtain ⟨v2,hv2⟩:∃ v,v=s.mem.peek (p4+3 * z+2):=⟨_,rfl⟩;rw [<-hp5] at y10 HAFT;have HA2:=Zh_ (show ∀ wx,Ze [] wr wx->wx.cell? ⟨px,5,none⟩=some (.int .i64 0)/\wx.cell? ⟨px,6,none⟩=some (.int .i64 1)/\wx.cell? ⟨px,7,none⟩=some (.int .i64 2)/\wx.cell? ⟨px,8,none⟩=some (.int .i64 3)/\wx.cell? ⟨px,9,none⟩=some (.int .i64 p4)/\wx.cell? ⟨px,10,none⟩=some (.int .i64 p5)/\wx.cell? ⟨px,11,none⟩=some (.pointer (some ⟨ma,0,none⟩)) from λ wx mm=>by
     have:=(HAFT.out wx mm).2;rw [<-HP4.out] at this;exact this)
    have HP33:=Zh_ (show ∀ wx,Ze [] wr wx->Calls Tryz.prog 33 #[.pointer (some ⟨ma,0,none⟩),.agg #[.int .i64 0,.int .i64 1,.int .i64 2,.int .i64 3,.int .i64 p4,.int .i64 p5],.int .i64 z] wx (λ e w'=>e=.returned (.tuple #[.agg #[.int .u64 v0,.int .u64 v1,.int .u64 v2],.int .i64 0])/\Ze [] wx w') from λ wx mm=>by
     refine (Wa (hME.mod mm (by simp) (by simp)) 0 1 2 3 p4 p5 z hxp hbad).mono ?_;rintro e w' ⟨h1,_,h3⟩;rw [<-hv0,<-hv1,<-hv2] at h1;exact ⟨h1,h3⟩)
    have HV:=Zh_ (show s.cellV z=atB v0 v1 v2 st by unfold Zq.cellV;rw [<-HP4.out,<-hv0,<-hv1,<-hv2,<-HST.out]);clear hp5 hv0 hv1 hv2 hxp hbad hME
    go_cut [7] (λ A wx=>∃ n7,A=.pointer (some ⟨n7,0,none⟩)/\wx.heap[n7]? =some (.cells #[.int .u64 v0,.int .u64 v1,.int .u64 v2] 101 (0,0))/\Ze [] wr wx)
    case first=>
     as_aux_lemma=>
      go_region_held3 (λ wx=>wx.cell? ⟨px,5,none⟩=some (.int .i64 0)/\wx.cell? ⟨px,6,none⟩=some (.int .i64 1)/\wx.cell? ⟨px,7,none⟩=some (.int .i64 2)/\wx.cell? ⟨px,8,none⟩=some (.int .i64 3)/\wx.cell? ⟨px,9,none⟩=some (.int .i64 p4)/\wx.cell? ⟨px,10,none⟩=some (.int .i64 p5)/\wx.cell? ⟨px,11,none⟩=some (.pointer (some ⟨ma,0,none⟩)))
       (first|exact ⟨y5,y6,y7,y8,y9,y10,y11⟩|exact HA2.out _ (((((((Zr_ _ _).drew).alloc _).trans mz.out).setCell _ _ (.inr (Nat.le_refl _))).setCell _ _ (.inr (Nat.le_refl _))).setCell _ _ (.inr (Nat.le_refl _)))|exact HA2.out _ ((((Zr_ _ _).drew).alloc _).trans mz.out)|exact HA2.out _ (((Zr_ _ _).drew).trans mz.out)|exact HA2.out _ ((((Zr_ _ _).drew).trans mz.out).alloc _)|exact HA2.out _ (((Zr_ _ _).drew).alloc _)|exact HA2.out _ ((Zr_ _ _).drew))
       (first|(go_at_call 33;refine Calls.mono (HP33.out _ (((Zr_ _ _).drew).alloc (.cells #[.int .u64 0,.int .u64 0,.int .u64 0] 101))) ?_;rintro e wz ⟨rfl,mz⟩;have Z:=mz.at (Zc _ _) (by simp);have z0:=Za (i:=0) Z rfl;have z1:=Za (i:=1) Z rfl;have z2:=Za (i:=2) Z rfl;have f0:=Zb (i:=0) Z;have f1:=Zb (i:=1) Z;have f2:=Zb (i:=2) Z;have mz:=Zh_ mz)|(go_at_call 33;refine Calls.mono (HP33.out _ (by first|exact (Zr_ _ _).drew|exact ((Zr_ _ _).drew).alloc _)) ?_;rintro e wz ⟨rfl,mz⟩;have mz:=Zh_ mz))
      all_goals
       go_wp2_with fail;go_meet
       first
       |exact ⟨_,rfl,Zc _ _,(((Zr_ _ _).drew).trans mz.out).alloc _⟩
       |exact ⟨_,rfl,Zd _ (Zd _ (Zd _ Z)),((((((Zr_ _ _).drew).alloc _).trans mz.out).setCell _ _ (.inr (Nat.le_refl _))).setCell _ _ (.inr (Nat.le_refl _))).setCell _ _ (.inr (Nat.le_refl _))⟩
    case rest=>
     obtain ⟨n7,rfl,B7,M7⟩:=hcut;have b0:=Za (i:=0) B7 rfl;have b1:=Za (i:=1) B7 rfl;have b2:=Za (i:=2) B7 rfl;have hx0:(HAFT.out wr (Zr_ _ _)).1=(HAFT.out wr (Zr_ _ _)).1:=rfl;have hA:=at11_c v0 v1 v2 st wc;rw [<-HV.out] at hA;have HM7:=Zh_ M7;clear M7 B7 y0 y5 y6 y7 y8 y9 y10 y11 hx0 HA2 HP33;obtain ⟨l,hl⟩:∃ l,l=(List.range z).map s.cellV:=⟨_,rfl⟩;have hO:=HO.out;rw [<-hl] at hO;have hlen:l.length=z:=by rw [hl];simp
     have HL:=Zh_ hl;have HLEN:=Zh_ hlen;have hfr:=hO.2;obtain ⟨av,cv,rfl⟩:=Zo hO.1;have hv:wc.ownsRow 0 51 1 (.slice av l.length cv) l.length (l.map (Value.float .f64)):=Ye hO.1 HM7.out;have HV7:=Zh_ hv;have HFR:=Zh_ hfr;obtain ⟨i0,hi0,hz0,hz1,hz2⟩:=info_parts Ui;have hl6:l.length<=4096:=by omega
     clear hl hlen hO hfr hv HO;go_wp2_with fail;refine hA.mono ?_;rintro e w8 ⟨rfl,hw8⟩;have m8:Ze [] wc w8:=by rw [hw8];exact (Zr_ _ _).alloc _
     have hv:=Ye HV7.out m8;have HM8:=Zh_ m8;clear hw8 m8 hA b0 b1 b2;go_wp2_with (at_builtin;refine wpList_append_own_at _ rfl _ _ 24 rfl 0 51 i0 (.float .f64 0) 1 8 underlying24 hi0 hz0 hz1 hz2 rfl (by decide) _ _ _ rfl (hv.alloc _) ⟨w8.heap.size,0,none⟩ 1 1 [Value.float .f64 (s.cellV z)] rfl rfl ?CA ?CB ?CC ?CD ?CE ?_)
     case CA=>exact cell_one_new _ _ _
     case CB=>intro u hu;simp at hu;subst hu;rfl
     case CC=>unfold maxLen;omega
     case CD=>omega
     case CE=>exact Nat.zero_le _
     intro u' w9 ho hg _ hat;have HOO:=Zh_ ho;have HG:=Zh_ hg;have HAT:=Zh_ hat;have HV8:=Zh_ hv;obtain ⟨gv,cvv,hvv,_⟩:=Yd ho (by omega);have HVV:=Zh_ hvv;rw [hvv];clear ho hg hat hvv hv hi0 hz0 hz1 hz2;go_wp2_with fail;go_roundw
     case rel=>
      have ml:Ze [] w w8:=(HM6.out.trans HM7.out).trans HM8.out;have mg:Ze _ _ w9:=(Zr_ _ _).grown HG.out (λ g hg=>.inl (Option.mem_toList.2 hg));refine ⟨z+1,by omega,by go_num,⟨?_,?_⟩,?_⟩
      ·have h:=HOO.out;rw [HVV.out] at h;have e:((List.range (z+1)).map s.cellV)=l++[s.cellV z]:=by rw [HL.out,List.range_succ,List.map_append];rfl
       rw [e];simpa using h
      ·intro g hgg;rw [<-HVV.out] at hgg;rcases HAT.out with e|e
       ·exact HFR.out g (e.symm.trans hgg)
       ·rw [e] at hgg;have h1:=Zo_ hgg;rw [<-h1];exact Nat.le_trans ml.size (by simp)
      ·refine (ml.alloc _).then mg (λ j hj=>.inr ?_)
       exact HFR.out j (Option.mem_toList.1 hj)
     case measure=>simp [intOf];omega
   ·have d4:decide ((z:Int) < c0)=false:=decide_eq_false (by omega);have hs:(List.range z).map s.cellV=s.state:=by
     unfold Zq.state;rw [<-HC0.out,show c0.toNat=z by omega]
    rw [hs] at hO;have HO:=Zh_ hO;have HMM:=Zh_ m;clear hO m hs;go_wp2;go_ret;exact ⟨_,rfl,HO.out,HMM.out⟩
end
end Go.Proofs.YtkhonmhnchdpkaaGreat
