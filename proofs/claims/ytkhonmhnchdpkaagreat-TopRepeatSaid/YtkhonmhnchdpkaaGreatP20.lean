/- A part of the proof; no condition. -/
import Derived.Test.YtkhonmhnchdpkaaGreatP19
set_option maxRecDepth 100000
set_option maxHeartbeats 40000000
namespace Go.Proofs.YtkhonmhnchdpkaaGreat
open Go.RowKit _root_.Go.Proofs.Tryz
section
attribute [local go_sem] Zj
attribute [local go_sem] Qa Xk
variable {w w' w0 w1 w2:World} {p p':MP} {q q':WP} {x x':Z2} {m:Zl} {a b:Nat} {s s':Zh} {S:List Nat} {n:Value}
theorem waits_c (h:Xc w q a b x n s w1) (hn:n=Xe 2) (hp:x.part=2):Calls Tryz.prog 89 #[.pointer (some ⟨q.k,0,none⟩),.pointer (some ⟨a,0,none⟩)] w1 (N6 w q a b ({x with part:=if s.look 1 x.ticket=true then 3 else 2}) (s.load 1)):=by
 have c1:=(h.cell 1 (u:=.int .i64 0) (λ _ _ _=>rfl)).1;have c2:=(h.cell 2 (u:=.int .i64 1) (λ _ _ _=>rfl)).1;have c3:=(h.cell 3 (u:=.int .i64 2) (λ _ _ _=>rfl)).1;have c4:=(h.cell 4 (u:=.int .i64 3) (λ _ _ _=>rfl)).1;have c5:=(h.cell 5 (u:=.int .i64 (Z4 x.c1)) (λ _ _ _=>rfl)).1;have c6:=(h.cell 6 (u:=.int .i64 (Zw x.c0 x.c1)) (λ _ _ _=>rfl)).1;have c13:=(h.cell 13 (u:=.int .u64 x.ticket) (λ _ _ _=>rfl)).1;have hM:=h.memA.drew;have H:=Zh_ h;have NX:=Zh_ hn;have HX:=Zh_ (show x={x with part:=2} by cases x;simp at hp ⊢;exact hp);obtain ⟨z,hz⟩:∃ z,z=s.look 1 x.ticket:=⟨_,rfl⟩;have hlt:=h.lt;clear h hn;rw [<-hz];have hL:=λ w' (h:Zi 137 w' a b s)=>look_c h 0 1 2 3 (Z4 x.c1) (Zw x.c0 x.c1) x.ticket;rw [<-hz] at hL;clear hz;replace hL:=hL _ hM;go_enter func89,ntmps89;go_upto_region 0 with fail
 go_cut [4,5] (λ A B wx=>A=.bool z/\B=.int .i64 (s.acc 1)/\Xc w q a b x n (s.load 1) wx)
 case first=>
  go_region_held3 (λ wx=>wx.cell? ⟨q.k,1,none⟩=some (.int .i64 0)/\wx.cell? ⟨q.k,2,none⟩=some (.int .i64 1)/\wx.cell? ⟨q.k,3,none⟩=some (.int .i64 2)/\wx.cell? ⟨q.k,4,none⟩=some (.int .i64 3)/\wx.cell? ⟨q.k,5,none⟩=some (.int .i64 (Z4 x.c1))/\wx.cell? ⟨q.k,6,none⟩=some (.int .i64 (Zw x.c0 x.c1))/\wx.cell? ⟨q.k,13,none⟩=some (.int .u64 x.ticket)) (first|exact ⟨c1,c2,c3,c4,c5,c6,c13⟩|exact ⟨d1,d2,d3,d4,d5,d6,d13⟩)
   (first|(go_at_call 106;refine (hL).mono ?_;rintro e w2 ⟨rfl,M2,m2⟩;have G2:=Zh_ (H.out.drew.memC M2 m2);have d1:=(G2.out.cell 1 (u:=.int .i64 0) (λ _ _ _=>rfl)).1;have d2:=(G2.out.cell 2 (u:=.int .i64 1) (λ _ _ _=>rfl)).1;have d3:=(G2.out.cell 3 (u:=.int .i64 2) (λ _ _ _=>rfl)).1;have d4:=(G2.out.cell 4 (u:=.int .i64 3) (λ _ _ _=>rfl)).1;have d5:=(G2.out.cell 5 (u:=.int .i64 (Z4 x.c1)) (λ _ _ _=>rfl)).1;have d6:=(G2.out.cell 6 (u:=.int .i64 (Zw x.c0 x.c1)) (λ _ _ _=>rfl)).1;have d13:=(G2.out.cell 13 (u:=.int .u64 x.ticket) (λ _ _ _=>rfl)).1))
  all_goals
   go_wp2_with fail;go_meet;exact ⟨rfl,rfl,G2.out⟩
 case rest=>
  obtain ⟨rfl,rfl,G2⟩:=hcut;clear c1 c2 c3 c4 c5 c6 c13;have hlt:=G2.lt;have G2:=Zh_ G2;cases z
  ·go_wp2;go_end0;exact ⟨rfl,n,HX.out ▸ G2.out,λ _=>NX.out⟩
  ·go_wp2_with fail;refine (V2 G2.out 3 (by decide) (by decide)).mono ?_;rintro e w3 ⟨rfl,G3⟩;go_wp2;go_end0;exact ⟨rfl,G3⟩
theorem Mt (h:Xc w q a b x n s w1):Calls Tryz.prog 94 #[.pointer (some ⟨q.k,0,none⟩),.pointer (some ⟨a,0,none⟩)] w1 (N6 w q a b ({x with number:=wrap64 (u64 (x.stamp+1)),part:=8}) (s.store 2 (u64 (x.stamp+1)))):=by
 have c1:=(h.cell 1 (u:=.int .i64 0) (λ _ _ _=>rfl)).1;have c2:=(h.cell 2 (u:=.int .i64 1) (λ _ _ _=>rfl)).1;have c3:=(h.cell 3 (u:=.int .i64 2) (λ _ _ _=>rfl)).1;have c4:=(h.cell 4 (u:=.int .i64 3) (λ _ _ _=>rfl)).1;have c5:=(h.cell 5 (u:=.int .i64 (Z4 x.c1)) (λ _ _ _=>rfl)).1;have c6:=(h.cell 6 (u:=.int .i64 (Zw x.c0 x.c1)) (λ _ _ _=>rfl)).1;have c14:=(h.cell 14 (u:=.int .u64 x.stamp) (λ _ _ _=>rfl)).1;have hM:=h.memA.drew;have H:=Zh_ h;have hlt:=h.lt;clear h;have hL:=Ar hM 0 1 2 3 (Z4 x.c1) (Zw x.c0 x.c1) (IntKind.u64.wrap (x.stamp+1));go_enter func94,ntmps94;go_upto_region 0 with fail
 go_cut [14] (λ A wx=>A=.int .i64 (s.acc 2)/\Xc w q a b x n (s.store 2 (u64 (x.stamp+1))) wx)
 case first=>
  go_region_held3 (λ wx=>wx.cell? ⟨q.k,1,none⟩=some (.int .i64 0)/\wx.cell? ⟨q.k,2,none⟩=some (.int .i64 1)/\wx.cell? ⟨q.k,3,none⟩=some (.int .i64 2)/\wx.cell? ⟨q.k,4,none⟩=some (.int .i64 3)/\wx.cell? ⟨q.k,5,none⟩=some (.int .i64 (Z4 x.c1))/\wx.cell? ⟨q.k,6,none⟩=some (.int .i64 (Zw x.c0 x.c1))/\wx.cell? ⟨q.k,14,none⟩=some (.int .u64 x.stamp)) (first|exact ⟨c1,c2,c3,c4,c5,c6,c14⟩|exact ⟨d1,d2,d3,d4,d5,d6,d14⟩)
   (first|(go_at_call 117;refine (hL).mono ?_;rintro e w2 ⟨rfl,M2,m2⟩;have G2:=Zh_ (H.out.drew.memC M2 m2);have d1:=(G2.out.cell 1 (u:=.int .i64 0) (λ _ _ _=>rfl)).1;have d2:=(G2.out.cell 2 (u:=.int .i64 1) (λ _ _ _=>rfl)).1;have d3:=(G2.out.cell 3 (u:=.int .i64 2) (λ _ _ _=>rfl)).1;have d4:=(G2.out.cell 4 (u:=.int .i64 3) (λ _ _ _=>rfl)).1;have d5:=(G2.out.cell 5 (u:=.int .i64 (Z4 x.c1)) (λ _ _ _=>rfl)).1;have d6:=(G2.out.cell 6 (u:=.int .i64 (Zw x.c0 x.c1)) (λ _ _ _=>rfl)).1;have d14:=(G2.out.cell 14 (u:=.int .u64 x.stamp) (λ _ _ _=>rfl)).1))
  all_goals
   go_wp2_with fail;go_meet;exact ⟨rfl,G2.out⟩
 case rest=>
  obtain ⟨rfl,G2⟩:=hcut;clear c1 c2 c3 c4 c5 c6 c14;have e14:=(G2.cell 14 (u:=.int .u64 x.stamp) (λ _ _ _=>rfl)).1;have e15:=(G2.cell 15 (u:=.int .i64 x.number) (λ _ _ _=>rfl)).1;have fe15:=(G2.cell 15 (u:=.int .i64 x.number) (λ _ _ _=>rfl)).2;have hlt:=G2.lt;have G2:=Zh_ G2;go_wp2_with fail;refine (V2 (Xc.setX (x':={x with number:=wrap64 (u64 (x.stamp+1))}) G2.out 15 _ (λ _=>rfl) rfl rfl rfl rfl rfl) 8 (by decide) (by decide)).mono ?_;rintro e w3 ⟨rfl,G3⟩;go_wp2;go_end0;exact ⟨rfl,G3⟩
theorem passes_c (h:Xc w q a b x n s w1):Calls Tryz.prog 95 #[.pointer (some ⟨q.k,0,none⟩),.pointer (some ⟨a,0,none⟩)] w1 (N6 w q a b ({x with part:=9}) (s.store 1 (u64 (x.ticket+1)))):=by
 have c1:=(h.cell 1 (u:=.int .i64 0) (λ _ _ _=>rfl)).1;have c2:=(h.cell 2 (u:=.int .i64 1) (λ _ _ _=>rfl)).1;have c3:=(h.cell 3 (u:=.int .i64 2) (λ _ _ _=>rfl)).1;have c4:=(h.cell 4 (u:=.int .i64 3) (λ _ _ _=>rfl)).1;have c5:=(h.cell 5 (u:=.int .i64 (Z4 x.c1)) (λ _ _ _=>rfl)).1;have c6:=(h.cell 6 (u:=.int .i64 (Zw x.c0 x.c1)) (λ _ _ _=>rfl)).1;have c13:=(h.cell 13 (u:=.int .u64 x.ticket) (λ _ _ _=>rfl)).1;have hM:=h.memA.drew;have H:=Zh_ h;have hlt:=h.lt;clear h;have hL:=pass_c hM 0 1 2 3 (Z4 x.c1) (Zw x.c0 x.c1) x.ticket;go_enter func95,ntmps95;go_upto_region 0 with fail
 go_cut [13] (λ A wx=>A=.int .i64 (s.acc 1)/\Xc w q a b x n (s.store 1 (u64 (x.ticket+1))) wx)
 case first=>
  go_region_held3 (λ wx=>wx.cell? ⟨q.k,1,none⟩=some (.int .i64 0)/\wx.cell? ⟨q.k,2,none⟩=some (.int .i64 1)/\wx.cell? ⟨q.k,3,none⟩=some (.int .i64 2)/\wx.cell? ⟨q.k,4,none⟩=some (.int .i64 3)/\wx.cell? ⟨q.k,5,none⟩=some (.int .i64 (Z4 x.c1))/\wx.cell? ⟨q.k,6,none⟩=some (.int .i64 (Zw x.c0 x.c1))/\wx.cell? ⟨q.k,13,none⟩=some (.int .u64 x.ticket)) (first|exact ⟨c1,c2,c3,c4,c5,c6,c13⟩|exact ⟨d1,d2,d3,d4,d5,d6,d13⟩)
   (first|(go_at_call 118;refine (hL).mono ?_;rintro e w2 ⟨rfl,M2,m2⟩;have G2:=Zh_ (H.out.drew.memC M2 m2);have d1:=(G2.out.cell 1 (u:=.int .i64 0) (λ _ _ _=>rfl)).1;have d2:=(G2.out.cell 2 (u:=.int .i64 1) (λ _ _ _=>rfl)).1;have d3:=(G2.out.cell 3 (u:=.int .i64 2) (λ _ _ _=>rfl)).1;have d4:=(G2.out.cell 4 (u:=.int .i64 3) (λ _ _ _=>rfl)).1;have d5:=(G2.out.cell 5 (u:=.int .i64 (Z4 x.c1)) (λ _ _ _=>rfl)).1;have d6:=(G2.out.cell 6 (u:=.int .i64 (Zw x.c0 x.c1)) (λ _ _ _=>rfl)).1;have d13:=(G2.out.cell 13 (u:=.int .u64 x.ticket) (λ _ _ _=>rfl)).1))
  all_goals
   go_wp2_with fail;go_meet;exact ⟨rfl,G2.out⟩
 case rest=>
  obtain ⟨rfl,G2⟩:=hcut;clear c1 c2 c3 c4 c5 c6 c13;have hlt:=G2.lt;have G2:=Zh_ G2;go_wp2_with fail;refine (V2 G2.out 9 (by decide) (by decide)).mono ?_;rintro e w3 ⟨rfl,G3⟩;go_wp2;go_end0;exact ⟨rfl,G3⟩
theorem scans_c (h:Xc w q a b x n s w1) (hn:n=Xe 5) (hp:x.part=5) {c:Z3} (hc:x.scan=some c) (hi:c.Inv) (hl:x.was.length<=4096):Calls Tryz.prog 92 #[.pointer (some ⟨q.k,0,none⟩),.pointer (some ⟨a,0,none⟩)] w1 (N6 w q a b (x.scans s).1 (x.scans s).2):=by
 have NX:=Zh_ hn;have hM:=h.memA;have e1:(x.scans s).1={x with scan:=some (c.next s),part:=if c.over s=true then (if 0 < x.was.length then 6 else 7) else 5}:=by unfold Z2.scans;rw [hc]
 have e2:(x.scans s).2=c.mem s:=by unfold Z2.scans;rw [hc]
 rw [e1,e2];clear e1 e2;have HX:=Zh_ (show {x with scan:=some (c.next s)}={x with scan:=some (c.next s),part:=5} by cases x;simp at hp ⊢;exact hp);obtain ⟨k,hk,c17,hput⟩:=h.scan hc;have hlt:=h.lt;have hL:=Co hM c hi hk;obtain ⟨z,hz⟩:∃ z,z=c.over s:=⟨_,rfl⟩;rw [<-hz] at hL ⊢
 clear hz;have HP:=Zh_ hput;clear hput hk hM hp hn hc h hi;cases z
 ·rw [if_neg (by decide)];go_enter func92,ntmps92;go_wp2_with fail;refine hL.mono ?_;rintro e w2 ⟨rfl,M2,k2,m2⟩;have G2:=HP.out _ _ _ M2 k2 m2;clear c17 M2 k2 m2 hL HP;have hlt:=G2.lt;have G2:=Zh_ G2;go_wp2;go_end0;exact ⟨rfl,n,HX.out ▸ G2.out,λ _=>NX.out⟩
 ·rw [if_pos rfl]
  by_cases h0:0 < x.was.length
  ·rw [if_pos h0];have hd:decide (0 < x.was.length)=true:=decide_eq_true h0;clear h0;go_enter func92,ntmps92;go_wp2_with fail;refine hL.mono ?_;rintro e w2 ⟨rfl,M2,k2,m2⟩;have G2:=HP.out _ _ _ M2 k2 m2;clear c17 M2 k2 m2 hL HP;obtain ⟨v,v16,f16,hv,-,-,-⟩:=G2.wasV;obtain ⟨av,cap,rfl⟩:=Zo hv;clear hv;have hlt:=G2.lt;have G2:=Zh_ G2;go_wp2_with fail;refine (V2 G2.out 6 (by decide) (by decide)).mono ?_;rintro e w3 ⟨rfl,G3⟩;go_wp2;go_end0;exact ⟨rfl,G3⟩
  ·rw [if_neg h0];have hd:decide (0 < x.was.length)=false:=decide_eq_false h0;clear h0;go_enter func92,ntmps92;go_wp2_with fail;refine hL.mono ?_;rintro e w2 ⟨rfl,M2,k2,m2⟩;have G2:=HP.out _ _ _ M2 k2 m2;clear c17 M2 k2 m2 hL HP;obtain ⟨v,v16,f16,hv,-,-,-⟩:=G2.wasV;obtain ⟨av,cap,rfl⟩:=Zo hv;clear hv;have hlt:=G2.lt;have G2:=Zh_ G2;go_wp2_with fail;refine (V2 G2.out 7 (by decide) (by decide)).mono ?_;rintro e w3 ⟨rfl,G3⟩;go_wp2;go_end0;exact ⟨rfl,G3⟩
end
section
attribute [local go_sem] Zj
attribute [local go_sem] Qa Xk
variable {w w' w0 w1 w2:World} {p p':MP} {q q':WP} {x x':Z2} {m:Zl} {a b:Nat} {s s':Zh} {S:List Nat} {n:Value}
theorem Dq (s:Zl) (v:Nat) (h:(s.step v).2.kind=1):(s.step v).1.waits=true:=by
 unfold Zl.step at h ⊢
 split
 ·assumption
 ·rename_i h0;rw [if_neg h0] at h;split at h
  ·simp [Zz] at h
  ·split at h
   ·simp [Zl.fault,Zz] at h
   ·split at h
    ·simp [Zl.fault,Zz] at h
    ·split at h
     ·simp [Zl.fault,Zz] at h
     ·rename_i h1 h2 h3 h4;rw [if_neg h1,if_neg h2,if_neg h3,if_neg h4];unfold Zl.go at h ⊢
      split
      ·rename_i h5;rw [if_pos h5] at h;simp [Zl.fault,Zz] at h
      ·rename_i h5;rw [if_neg h5] at h;revert h;generalize hd:s.next.doE v s.at=d;cases d with
       |error e=>intro h;simp [Zl.fault,Zz] at h
       |ok r=>
        intro h;show r.1.waits=true;have h:r.2.kind=1:=h;unfold Zl.doE at hd;split at hd
        ·unfold Zl.readE at hd;split at hd
         ·cases hd
         ·split at hd
          ·cases hd;simp at h
          ·cases hd;rfl
        ·split at hd
         ·unfold Zl.writeE at hd;split at hd
          ·cases hd
          ·split at hd
           ·cases hd
           ·split at hd
            ·cases hd
            ·cases hd;simp at h
         ·split at hd
          ·cases hd;simp [Zz] at h
          ·split at hd
           ·cases hd;simp [Zz] at h
           ·split at hd
            ·cases hd;simp [Zz] at h
            ·split at hd
             ·cases hd;simp [Zz] at h
             ·split at hd
              ·cases hd;simp [Zz] at h
              ·split at hd
               ·split at hd
                ·cases hd;simp [Zz] at h
                ·cases hd;simp [Zz] at h
               ·cases hd;simp [Zz] at h
def WRun (w:World) (q:WP) (a b:Nat) (x:Z2) (s:Zh) (e:Ending) (w':World):Prop:=∃ v,N6 w q a b (x.runs s v).1 (x.runs s v).2 e w'
theorem fld48 (a b c:Int) (w:World):(Instr.field 48 (.agg #[.int .i64 a,.int .i64 b,.int .i64 c]) 0).run Tryz.prog w=.ok (.int .i64 a) w:=by kernel_rfl
def R1 (w3 w4:World) (c0 c1 st:Int):Prop:=w4=(w3.alloc (.cells #[.int .i64 0,.int .i64 1,.int .i64 2,.int .i64 3,.int .i64 (Z4 c1),.int .i64 (Zw c0 c1)] 74)).alloc (.cells (Gf c0 c1 st).arr 243)
theorem look_blk {w3 w4:World} {c0 c1 st:Int} (h:R1 w3 w4 c0 c1 st):w4.heap[w3.heap.size+1]? =some (.cells (Gf c0 c1 st).arr 243 (0,0)):=by rw [h];exact Tx w3 _ _
theorem look_mod {w3 w4:World} {c0 c1 st:Int} (h:R1 w3 w4 c0 c1 st):Ze [] w3 w4:=by rw [h];exact ((Zr_ _ _).alloc _).alloc _
theorem Wl {w3 w4:World} {c0 c1 st:Int} (h:R1 w3 w4 c0 c1 st):w3.heap.size+1 < w4.heap.size:=by rw [h];simp
theorem look_d (c0 c1 st:Int) (w:World):Calls Tryz.prog 112 #[.agg #[.int .i64 0,.int .i64 1,.int .i64 2,.int .i64 3,.int .i64 (Z4 c1),.int .i64 (Zw c0 c1)],.int .i64 c1,.int .u64 st] w λ e w'=>e=.returned (.pointer (some ⟨w.heap.size+1,0,none⟩))/\R1 w w' c0 c1 st:=look_c13 0 1 2 3 (Z4 c1) (Zw c0 c1) c1 st w
theorem Af {v:Nat} {cl:Int} {xx:Nat} {fs:Bool} (hA:(⟨1,cl,xx,fs⟩:Xg)=(x.m.step v).2):x.runs s v=({x with m:=(x.m.step v).1.give (s.nowV (Z4 x.c1) cl)},s.cellM (Z4 x.c1) cl 1):=by
 unfold Z2.runs;rw [<-hA];rfl
theorem Cp {v:Nat} {cl:Int} {xx:Nat} (hA:(⟨3,cl,xx,true⟩:Xg)=(x.m.step v).2):x.runs s v=({x with m:=(x.m.step v).1,was:=x.was++[s.nowV (Z4 x.c1) cl]},s.cellM (Z4 x.c1) cl 1):=by
 unfold Z2.runs;rw [<-hA];rfl
theorem runs_end {v:Nat} {cl:Int} {xx:Nat} {fs:Bool} (hA:(⟨4,cl,xx,fs⟩:Xg)=(x.m.step v).2) (hh:(x.m.step v).1.how=1):x.runs s v=({x with m:=(x.m.step v).1,scan:=some (Gf x.c0 x.c1 x.stamp),part:=5},s):=by
 unfold Z2.runs;rw [<-hA];simp [hh]
theorem Ae {v:Nat} {cl:Int} {xx:Nat} {fs:Bool} (hA:(⟨4,cl,xx,fs⟩:Xg)=(x.m.step v).2) (hh:(x.m.step v).1.how≠1):x.runs s v=({x with m:=(x.m.step v).1,part:=8},s):=by
 unfold Z2.runs;rw [<-hA];simp [hh]
theorem Rp {v:Nat} {kd cl:Int} {xx:Nat} {fs:Bool} (hA:(⟨kd,cl,xx,fs⟩:Xg)=(x.m.step v).2) (h1:kd≠1) (h3:¬ (kd=3/\fs=true)) (h4:kd≠4):x.runs s v=({x with m:=(x.m.step v).1},s):=by
 unfold Z2.runs;rw [<-hA];simp only [h1,h3,h4,if_false,false_and]
theorem runs_c (h:Xc w q a b x n s w1) (hn:n=Xe 4) (hp:x.part=4) (o:Yl x.m) (hl:x.was.length<=4096):Calls Tryz.prog 91 #[.pointer (some ⟨q.k,0,none⟩),.pointer (some ⟨a,0,none⟩)] w1 (WRun w q a b x s):=by
 have NX:=Zh_ hn;have HP:=Zh_ hp;obtain ⟨p,hm,hmb,hput⟩:=h.mach;have c7:=(h.cell 7 (u:=.pointer (some ⟨q.p.mb,0,none⟩)) (λ r hm _=>by rw [<-hm];rfl)).1;have hc:=step_c hm o;rw [hmb] at hc;have hlt:=h.lt;have HPUT:=Zh_ hput;clear hput hm hmb hn hp h;go_enter func91,ntmps91;go_wp2_with fail;refine hc.mono ?_;rintro e w2 ⟨v,he,D2⟩;obtain ⟨⟨kd,cl,xx,fs⟩,hA⟩:∃ A,A=(x.m.step v).2:=⟨_,rfl⟩;rw [<-hA] at he;replace he:e=.returned (.agg #[.int .i64 kd,.int .i64 cl,.float .f64 xx,.bool fs]):=he;subst he;have G2:=HPUT.out _ _ D2;clear c7 D2 hc HPUT;have hlt:=G2.lt;have HA:=Zh_ hA;clear hA;have H2:=Zh_ G2;clear G2
 by_cases k1:kd=1
 ·subst k1;go_upto_region 2 with fail;have BL:=Zh_ (Zc w2 (.cells #[.int .i64 1,.int .i64 cl,.float .f64 xx,.bool fs] 152));have G3:=H2.out.alloc (.cells #[.int .i64 1,.int .i64 cl,.float .f64 xx,.bool fs] 152);clear H2 hlt;generalize w2.alloc (.cells #[.int .i64 1,.int .i64 cl,.float .f64 xx,.bool fs] 152)=w3 at *
  generalize w2.heap.size=g at *
  have c1:=(G3.cell 1 (u:=.int .i64 0) (λ _ _ _=>rfl)).1;have c2:=(G3.cell 2 (u:=.int .i64 1) (λ _ _ _=>rfl)).1;have c3:=(G3.cell 3 (u:=.int .i64 2) (λ _ _ _=>rfl)).1;have c4:=(G3.cell 4 (u:=.int .i64 3) (λ _ _ _=>rfl)).1;have c5:=(G3.cell 5 (u:=.int .i64 (Z4 x.c1)) (λ _ _ _=>rfl)).1;have c6:=(G3.cell 6 (u:=.int .i64 (Zw x.c0 x.c1)) (λ _ _ _=>rfl)).1;have g1:w3.cell? ⟨g,1,none⟩=some (.int .i64 cl):=Za BL.out rfl;have hgl:=lt_of_block BL.out;have hlt:=G3.lt;have hM:=G3.memA.drew;have H3:=Zh_ G3;have hna:g∉[a,b]:=λ hh=>by
   have t:=Zn BL.out;simp at hh;rcases hh with rfl|rfl
   ·rw [G3.memA.ta] at t;exact absurd t (by decide)
   ·rw [G3.memA.tb] at t;exact absurd t (by decide)
  have HNA:=Zh_ hna;clear G3 hna;have hL:=now11 hM 0 1 2 3 (Z4 x.c1) (Zw x.c0 x.c1) cl
  go_cut [5] (λ A wx=>A=.float .f64 (s.nowV (Z4 x.c1) cl)/\Xc w q a b {x with m:=(x.m.step v).1} n (s.cellM (Z4 x.c1) cl 1) wx)
  case first=>
   go_region_held3 (λ wx=>wx.cell? ⟨q.k,1,none⟩=some (.int .i64 0)/\wx.cell? ⟨q.k,2,none⟩=some (.int .i64 1)/\wx.cell? ⟨q.k,3,none⟩=some (.int .i64 2)/\wx.cell? ⟨q.k,4,none⟩=some (.int .i64 3)/\wx.cell? ⟨q.k,5,none⟩=some (.int .i64 (Z4 x.c1))/\wx.cell? ⟨q.k,6,none⟩=some (.int .i64 (Zw x.c0 x.c1))/\wx.cell? ⟨g,1,none⟩=some (.int .i64 cl)) (first|exact ⟨c1,c2,c3,c4,c5,c6,g1⟩|exact ⟨d1,d2,d3,d4,d5,d6,k1⟩)
   (first|(go_at_call 109;refine (hL).mono ?_;rintro e w4 ⟨rfl,M4,m4⟩;have G4:=Zh_ (H3.out.drew.memC M4 m4);have d1:=(G4.out.cell 1 (u:=.int .i64 0) (λ _ _ _=>rfl)).1;have d2:=(G4.out.cell 2 (u:=.int .i64 1) (λ _ _ _=>rfl)).1;have d3:=(G4.out.cell 3 (u:=.int .i64 2) (λ _ _ _=>rfl)).1;have d4:=(G4.out.cell 4 (u:=.int .i64 3) (λ _ _ _=>rfl)).1;have d5:=(G4.out.cell 5 (u:=.int .i64 (Z4 x.c1)) (λ _ _ _=>rfl)).1;have d6:=(G4.out.cell 6 (u:=.int .i64 (Zw x.c0 x.c1)) (λ _ _ _=>rfl)).1;have k1:=Za (i:=1) (m4.at BL.out HNA.out) rfl))
   all_goals
    go_wp2_with fail;go_meet;exact ⟨rfl,G4.out⟩
  case rest=>
   obtain ⟨rfl,G4⟩:=hcut;clear c1 c2 c3 c4 c5 c6 g1 hM hL hlt;obtain ⟨p,hm,hmb,hput⟩:=G4.mach;have o':=Hd o v;have hw:(x.m.step v).1.waits=true:=Dq x.m v (by rw [<-HA.out]);have hr:(x.m.step v).1.reads.length<=4096:=by
    have h1:=o'.reads;have h2:=o'.used1;have h3:=o'.fuel;rw [hw] at h1;simp only [if_true] at h1;omega
   have hc:=Lt hm hw (o'.room hw) hr (s.nowV (Z4 x.c1) cl);rw [hmb] at hc;have c7:=(G4.cell 7 (u:=.pointer (some ⟨q.p.mb,0,none⟩)) (λ r hm _=>by rw [<-hm];rfl)).1;have hlt:=G4.lt;have HPUT:=Zh_ hput;clear hput hm hmb hw hr o' G4;go_wp2_with fail;refine hc.mono ?_;rintro e w5 ⟨rfl,D5⟩;have G5:=Zh_ (HPUT.out _ _ D5);clear D5 hc c7;go_wp2;go_end0;refine ⟨v,?_⟩;rw [Af HA.out];exact ⟨rfl,n,G5.out,λ _=>NX.out.trans (by rw [HP.out])⟩
 ·have d1:(kd==1)=false:=by simp [k1]
  by_cases k3:kd=3
  ·subst k3;cases fs
   ·go_wp2;go_end0;refine ⟨v,?_⟩;rw [Rp HA.out (by decide) (by simp) (by decide)];exact ⟨rfl,n,H2.out.alloc _,λ _=>NX.out.trans (by rw [HP.out])⟩
   ·go_upto_region 5 with fail;have BL:=Zh_ (Zc w2 (.cells #[.int .i64 3,.int .i64 cl,.float .f64 xx,.bool true] 152));have G3:=H2.out.alloc (.cells #[.int .i64 3,.int .i64 cl,.float .f64 xx,.bool true] 152);clear H2 hlt;generalize w2.alloc (.cells #[.int .i64 3,.int .i64 cl,.float .f64 xx,.bool true] 152)=w3 at *
    generalize w2.heap.size=g at *
    have c1:=(G3.cell 1 (u:=.int .i64 0) (λ _ _ _=>rfl)).1;have c2:=(G3.cell 2 (u:=.int .i64 1) (λ _ _ _=>rfl)).1;have c3:=(G3.cell 3 (u:=.int .i64 2) (λ _ _ _=>rfl)).1;have c4:=(G3.cell 4 (u:=.int .i64 3) (λ _ _ _=>rfl)).1;have c5:=(G3.cell 5 (u:=.int .i64 (Z4 x.c1)) (λ _ _ _=>rfl)).1;have c6:=(G3.cell 6 (u:=.int .i64 (Zw x.c0 x.c1)) (λ _ _ _=>rfl)).1;have g1:w3.cell? ⟨g,1,none⟩=some (.int .i64 cl):=Za BL.out rfl;have hgl:=lt_of_block BL.out;have hlt:=G3.lt;have hM:=G3.memA.drew;have H3:=Zh_ G3;have hna:g∉[a,b]:=λ hh=>by
     have t:=Zn BL.out;simp at hh;rcases hh with rfl|rfl
     ·rw [G3.memA.ta] at t;exact absurd t (by decide)
     ·rw [G3.memA.tb] at t;exact absurd t (by decide)
    have HNA:=Zh_ hna;clear G3 hna;have hL:=now11 hM 0 1 2 3 (Z4 x.c1) (Zw x.c0 x.c1) cl
    go_cut [7] (λ A wx=>A=.float .f64 (s.nowV (Z4 x.c1) cl)/\Xc w q a b {x with m:=(x.m.step v).1} n (s.cellM (Z4 x.c1) cl 1) wx)
    case first=>
     go_region_held3 (λ wx=>wx.cell? ⟨q.k,1,none⟩=some (.int .i64 0)/\wx.cell? ⟨q.k,2,none⟩=some (.int .i64 1)/\wx.cell? ⟨q.k,3,none⟩=some (.int .i64 2)/\wx.cell? ⟨q.k,4,none⟩=some (.int .i64 3)/\wx.cell? ⟨q.k,5,none⟩=some (.int .i64 (Z4 x.c1))/\wx.cell? ⟨q.k,6,none⟩=some (.int .i64 (Zw x.c0 x.c1))/\wx.cell? ⟨g,1,none⟩=some (.int .i64 cl)) (first|exact ⟨c1,c2,c3,c4,c5,c6,g1⟩|exact ⟨d1,d2,d3,d4,d5,d6,k1⟩)
      (first|(go_at_call 109;refine (hL).mono ?_;rintro e w4 ⟨rfl,M4,m4⟩;have G4:=Zh_ (H3.out.drew.memC M4 m4);have d1:=(G4.out.cell 1 (u:=.int .i64 0) (λ _ _ _=>rfl)).1;have d2:=(G4.out.cell 2 (u:=.int .i64 1) (λ _ _ _=>rfl)).1;have d3:=(G4.out.cell 3 (u:=.int .i64 2) (λ _ _ _=>rfl)).1;have d4:=(G4.out.cell 4 (u:=.int .i64 3) (λ _ _ _=>rfl)).1;have d5:=(G4.out.cell 5 (u:=.int .i64 (Z4 x.c1)) (λ _ _ _=>rfl)).1;have d6:=(G4.out.cell 6 (u:=.int .i64 (Zw x.c0 x.c1)) (λ _ _ _=>rfl)).1;have k1:=Za (i:=1) (m4.at BL.out HNA.out) rfl))
     all_goals
      go_wp2_with fail;go_meet;exact ⟨rfl,G4.out⟩
    case rest=>
     obtain ⟨rfl,G4⟩:=hcut;clear c1 c2 c3 c4 c5 c6 g1 hM hL hlt;obtain ⟨v0,c16,f16,hv,⟨cs,hcs,hcs16⟩,hnk,hput⟩:=G4.wasV;obtain ⟨av,cv,rfl⟩:=Zo hv;have hlt:=G4.lt;have HPUT:=Zh_ hput;have HCS:=Zh_ hcs;have HCS16:=Zh_ hcs16;have HNK:=Zh_ hnk;obtain ⟨i0,hi0,hz0,hz1,hz2⟩:=info_parts Ui;clear hput hcs hcs16 hnk G4;have hl':x.was.length<=4096:=hl;go_wp2_with (at_builtin;refine wpList_append_own_at _ rfl _ _ 24 rfl 0 51 i0 (.float .f64 0) 1 8 underlying24 hi0 hz0 hz1 hz2 rfl (by decide) _ _ _ rfl (hv.alloc _) ⟨wc.heap.size,0,none⟩ 1 1 [Value.float .f64 (s.nowV (Z4 x.c1) cl)] rfl rfl ?CA ?CB ?CC ?CD ?CE ?_)
     case CB=>rfl
     case CC=>first|(unfold maxLen;omega)|omega
     case CD=>omega
     intro u' w5 ho5 hg5 _ hat;obtain ⟨g5,cap5,rfl,-⟩:=Yd ho5 (by omega);have K5:w5.heap[q.k]? =some (.cells cs 161 (0,0)):=(hg5.block q.k (by simp;omega) (λ e=>HNK.out q.k e.symm rfl)).trans (Zf _ HCS.out);have M5:Ze (Value.slice av x.was.length cv).ownBlock.toList wc w5:=((Zr_ _ _).alloc _).grown hg5 (λ g hg=>.inl (by simpa using hg));have hon:Us wc (.slice av x.was.length cv) (.slice (some ⟨g5,0,none⟩) (x.was.length+1) cap5):=by
      rcases hat with e|e
      ·exact .inl e
      ·exact .inr ⟨_,e,by first|omega|(rw [World.size_alloc];omega)⟩
     have z8:=Zb (i:=16) K5;have r8:w5.cell? ⟨q.k,16,none⟩=some (.slice av x.was.length cv):=Za K5 HCS16.out;have hlt5:=lt_of_block K5;have G6:=Zh_ (HPUT.out w5 _ (.slice (some ⟨g5,0,none⟩) (x.was.length+1) cap5) (s.nowV (Z4 x.c1) cl) M5 hon (by simpa using ho5) rfl);clear hon hat hg5 ho5 M5 K5 hv c16 f16 hlt HPUT;go_wp2;go_end0;refine ⟨v,?_⟩;rw [Cp HA.out];exact ⟨rfl,n,G6.out,λ _=>NX.out.trans (by rw [HP.out])⟩
  ·have d3:(kd==3)=false:=by simp [k3]
   by_cases k4:kd=4
   ·subst k4;obtain ⟨p,hm,hmb,-⟩:=H2.out.mach;obtain ⟨hw,hhw⟩:∃ hw,hw=(x.m.step v).1.how:=⟨_,rfl⟩;have c7:=(H2.out.cell 7 (u:=.pointer (some ⟨q.p.mb,0,none⟩)) (λ r hm _=>by rw [<-hm];rfl)).1;have hc:=end_c (hm.alloc (.cells #[.int .i64 4,.int .i64 cl,.float .f64 xx,.bool fs] 152));rw [hmb,<-hhw] at hc;have HW:=Zh_ hhw;clear hm hmb hhw;have hf:=λ w=>fld48 hw (x.m.step v).1.ecode (x.m.step v).1.eerr w;have BL:=Zh_ (Zc w2 (.cells #[.int .i64 4,.int .i64 cl,.float .f64 xx,.bool fs] 152))
    by_cases e1:hw=1
    ·subst e1;go_wp2_with fail;refine hc.mono ?_;rintro e w3 ⟨rfl,m3⟩;have G3:=(H2.out.alloc _).mod0 m3;clear hc c7 m3 H2;go_upto_region 8 with fail;have c1:=(G3.cell 1 (u:=.int .i64 0) (λ _ _ _=>rfl)).1;have c2:=(G3.cell 2 (u:=.int .i64 1) (λ _ _ _=>rfl)).1;have c3:=(G3.cell 3 (u:=.int .i64 2) (λ _ _ _=>rfl)).1;have c4:=(G3.cell 4 (u:=.int .i64 3) (λ _ _ _=>rfl)).1;have c5:=(G3.cell 5 (u:=.int .i64 (Z4 x.c1)) (λ _ _ _=>rfl)).1;have c6:=(G3.cell 6 (u:=.int .i64 (Zw x.c0 x.c1)) (λ _ _ _=>rfl)).1;have c8:=(G3.cell 8 (u:=.int .i64 x.c1) (λ _ _ _=>rfl)).1;have c14:=(G3.cell 14 (u:=.int .u64 x.stamp) (λ _ _ _=>rfl)).1;obtain ⟨u17,c17,f17⟩:=G3.scanF;have hlt:=G3.lt;have hsz:=G3.size;have H3:=Zh_ G3;clear G3;have hL:=look_d x.c0 x.c1 x.stamp
     go_cut [90] (λ _ wx=>Xc w q a b {x with m:=(x.m.step v).1,scan:=some (Gf x.c0 x.c1 x.stamp)} n s wx)
     case first=>
      go_region_held3 (λ wx=>wx.cell? ⟨q.k,1,none⟩=some (.int .i64 0)/\wx.cell? ⟨q.k,2,none⟩=some (.int .i64 1)/\wx.cell? ⟨q.k,3,none⟩=some (.int .i64 2)/\wx.cell? ⟨q.k,4,none⟩=some (.int .i64 3)/\wx.cell? ⟨q.k,5,none⟩=some (.int .i64 (Z4 x.c1))/\wx.cell? ⟨q.k,6,none⟩=some (.int .i64 (Zw x.c0 x.c1))/\wx.cell? ⟨q.k,8,none⟩=some (.int .i64 x.c1)/\wx.cell? ⟨q.k,14,none⟩=some (.int .u64 x.stamp)) (first|exact ⟨c1,c2,c3,c4,c5,c6,c8,c14⟩|exact ⟨d1,d2,d3,d4,d5,d6,d8,d14⟩|(have G6:=G4.out.newScan B4.out (Nat.le_succ_of_le hsz);have e1:=(G6.cell 1 (u:=.int .i64 0) (λ _ _ _=>rfl)).1;have e2:=(G6.cell 2 (u:=.int .i64 1) (λ _ _ _=>rfl)).1;have e3:=(G6.cell 3 (u:=.int .i64 2) (λ _ _ _=>rfl)).1;have e4:=(G6.cell 4 (u:=.int .i64 3) (λ _ _ _=>rfl)).1;have e5:=(G6.cell 5 (u:=.int .i64 (Z4 x.c1)) (λ _ _ _=>rfl)).1;have e6:=(G6.cell 6 (u:=.int .i64 (Zw x.c0 x.c1)) (λ _ _ _=>rfl)).1;have e8:=(G6.cell 8 (u:=.int .i64 x.c1) (λ _ _ _=>rfl)).1;have e14:=(G6.cell 14 (u:=.int .u64 x.stamp) (λ _ _ _=>rfl)).1;exact ⟨e1,e2,e3,e4,e5,e6,e8,e14⟩))
       (first|(go_at_call 112;refine (hL _).mono ?_;rintro e w4 ⟨rfl,hw4⟩;have B4:=Zh_ (look_blk hw4);have G4:=Zh_ (H3.out.drew.mod0 (look_mod hw4));have hz4:=Wl hw4;have d1:=(G4.out.cell 1 (u:=.int .i64 0) (λ _ _ _=>rfl)).1;have d2:=(G4.out.cell 2 (u:=.int .i64 1) (λ _ _ _=>rfl)).1;have d3:=(G4.out.cell 3 (u:=.int .i64 2) (λ _ _ _=>rfl)).1;have d4:=(G4.out.cell 4 (u:=.int .i64 3) (λ _ _ _=>rfl)).1;have d5:=(G4.out.cell 5 (u:=.int .i64 (Z4 x.c1)) (λ _ _ _=>rfl)).1;have d6:=(G4.out.cell 6 (u:=.int .i64 (Zw x.c0 x.c1)) (λ _ _ _=>rfl)).1;have d8:=(G4.out.cell 8 (u:=.int .i64 x.c1) (λ _ _ _=>rfl)).1;have d14:=(G4.out.cell 14 (u:=.int .u64 x.stamp) (λ _ _ _=>rfl)).1;obtain ⟨v17,e17,g17⟩:=G4.out.scanF;have hlt4:=G4.out.lt;clear hw4))
      all_goals
       go_wp2_with fail;go_meet;exact G4.out.newScan B4.out (Nat.le_succ_of_le hsz)
     case rest=>
      have G5:=Zh_ hcut;have hlt:=hcut.lt;clear hcut H3 c1 c2 c3 c4 c5 c6 c8 c14;go_wp2_with fail;refine (V2 G5.out 5 (by decide) (by decide)).mono ?_;rintro e w6 ⟨rfl,G6⟩;go_wp2;go_end0;refine ⟨v,?_⟩;rw [runs_end HA.out HW.out.symm];exact ⟨rfl,G6⟩
    ·have dw:(hw==1)=false:=by simp [e1]
     go_wp2_with fail;refine hc.mono ?_;rintro e w3 ⟨rfl,m3⟩;have B3:=Za (i:=0) (m3.at BL.out (by simp)) rfl;have L3:=lt_of_block (m3.at BL.out (by simp));have G3:=(H2.out.alloc _).mod0 m3;have hlt:=G3.lt;have H3:=Zh_ G3;clear hc c7 m3 H2 G3;go_wp2_with fail;refine (V2 H3.out 8 (by decide) (by decide)).mono ?_;rintro e w6 ⟨rfl,G6⟩;go_wp2;go_end0;refine ⟨v,?_⟩;rw [Ae HA.out (λ h=>e1 (HW.out.trans h))];exact ⟨rfl,G6⟩
   ·have d4:(kd==4)=false:=by simp [k4]
    go_wp2;go_end0;refine ⟨v,?_⟩;rw [Rp HA.out k1 (by simp [k3]) k4];exact ⟨rfl,n,H2.out.alloc _,λ _=>NX.out.trans (by rw [HP.out])⟩
end
section
attribute [local go_sem] Zj
attribute [local go_sem] Qa Xk
variable {w w' w0 w1 w2:World} {p p':MP} {q q':WP} {x x':Z2} {m:Zl} {a b:Nat} {s s':Zh} {S:List Nat} {n:Value}
theorem Dm {l:List (Int×Nat)} {k:Nat} (h:k < l.length):(Yh l)[k * 2]? =some (.int .i64 (l.getD k (0,0)).1)/\(Yh l)[k * 2+1]? =some (.float .f64 (l.getD k (0,0)).2):=by
 induction l generalizing k with
 |nil=>simp at h
 |cons p l ih=>
  cases k with
  |zero=>exact ⟨rfl,rfl⟩
  |succ k=>
   have:=ih (k:=k) (by simpa using h);simp only [Yh,List.flatMap_cons,List.cons_append,List.nil_append,List.getD_cons_succ] at this ⊢
   rw [show (k+1) * 2=(k * 2)+1+1 by omega,show k * 2+1+1+1=(k * 2+1)+1+1 by omega];simp only [List.getElem?_cons_succ];exact this
theorem Fx (s:Xj):s.all.length=s.order.length:=by simp [Xj.all]
theorem Ji {w:World} {t:TypeId} {g n cap:Nat} {xs:List Value} (h:w.ownsRow 0 t 2 (.slice (some ⟨g,0,none⟩) n cap) n xs) {i:Nat} {u:Value} (hi:xs[i]? =some u):w.cell? ⟨g,i,none⟩=some u:=by
 have:=h.cells (g:=g) rfl i u hi
 rwa [show ((⟨g,0,none⟩:Addr).add i)=⟨g,i,none⟩ by unfold Addr.add;split <;> simp_all] at this
theorem U7 {w:World} {t:TypeId} {g n cap:Nat} {xs:List Value} (h:w.ownsRow 0 t 1 (.slice (some ⟨g,0,none⟩) n cap) n xs) {i:Nat} {u:Value} (hi:xs[i]? =some u):w.cell? ⟨g,i,none⟩=some u:=Ki h rfl hi
theorem Yx {w:World} {k i k' j:Nat} {u v:Value} (h:w.cell? ⟨k',i,none⟩=some v) (hne:(⟨k,j,none⟩:Addr)≠⟨k',i,none⟩):(w.setCell ⟨k,j,none⟩ u).cell? ⟨k',i,none⟩=some v:=by rw [World.cell?_setCell_other (h:=hne)];exact h
theorem X1 {k i j:Nat} (h:j≠i):(⟨k,j,none⟩:Addr)≠⟨k,i,none⟩:=λ e=>h (by injection e)
theorem Ht {k k' i j:Nat} (h:k≠k'):(⟨k,j,none⟩:Addr)≠⟨k',i,none⟩:=λ e=>h (by injection e)
theorem Jh (h:x.wr.over s=false) (hw:x.written < x.was.length):x.writes s=({x with back:=some (x.wr.next s)},x.wr.mem s):=by
 unfold Z2.writes Z2.wrote;rw [h,if_neg (by decide)];unfold Z2.ended;rw [if_neg (by simp;omega)]
theorem Fr (h:x.wr.over s=true) (hw:x.written+1≠x.was.length):x.writes s=({x with back:=none,written:=x.written+1},x.wr.mem s):=by
 unfold Z2.writes Z2.wrote;rw [h,if_pos rfl];unfold Z2.ended;rw [if_neg (by simpa using hw)]
theorem Fs (h:x.wr.over s=true) (hw:x.written+1=x.was.length):x.writes s=({x with back:=none,written:=x.written+1,part:=7},x.wr.mem s):=by
 unfold Z2.writes Z2.wrote;rw [h,if_pos rfl];unfold Z2.ended;rw [if_pos (by simpa using hw)]
theorem St (h:Xc w q a b x n s w1) (hn:n=Xe 6) (hp:x.part=6) (hw:x.written < x.was.length) (he:x.was.length=x.m.buf.order.length) (hl:x.was.length<=4096) (ho:∀ k∈x.m.buf.order,0<=k/\k < 256) (hi:x.wr.Inv):Calls Tryz.prog 93 #[.pointer (some ⟨q.k,0,none⟩),.pointer (some ⟨a,0,none⟩)] w1 (N6 w q a b (x.writes s).1 (x.writes s).2):=by
 have NX:=Zh_ hn;have HP:=Zh_ hp;have HI:=Zh_ hi;clear hn hp hi;rcases hb:x.back with _|r
 ·obtain ⟨c18,f18⟩:=h.noBack hb;obtain ⟨p,hm,hmb,-⟩:=h.mach;have c7:=(h.cell 7 (u:=.pointer (some ⟨q.p.mb,0,none⟩)) (λ r hm _=>by rw [<-hm];rfl)).1;have c19:=(h.cell 19 (u:=.int .i64 x.written) (λ _ _ _=>rfl)).1;have hlt:=h.lt;have hrow:=Dm (l:=x.m.buf.all) (k:=x.written) (by rw [Fx];omega);have HROW:=Zh_ hrow;have HNB:=Zh_ hb;have HB:=Zh_ (show x.wr=wrOf x.c0 x.c1 (x.m.buf.all.getD x.written (0,0)).1 (x.was.getD x.written 0) (u64 (x.stamp+1)) (x.m.buf.all.getD x.written (0,0)).2 by unfold Z2.wr;rw [hb]);have H:=Zh_ h;have HM:=Zh_ hm;have HMB:=Zh_ hmb;have hlen:x.written < x.m.buf.order.length:=by omega
  have HK:=Zh_ (λ (wx:World) (D:Ze [] w1 wx)=>(show wx.cell? ⟨q.k,7,none⟩=some (.pointer (some ⟨q.p.mb,0,none⟩))/\wx.cell? ⟨q.k,19,none⟩=some (.int .i64 x.written) from ⟨((h.mod0 D).cell 7 (λ r hm _=>by rw [<-hm];rfl)).1,((h.mod0 D).cell 19 (λ _ _ _=>rfl)).1⟩));have hc:=λ (wx:World) (D:Ze [] w1 wx)=>Hy (hm.mod D (by simp)) ho;rw [hmb] at hc;have HC:=Zh_ hc;clear hc hm hmb hrow h hb;generalize (x.m.buf.all.getD x.written (0,0)).1=tc at *
  generalize (x.m.buf.all.getD x.written (0,0)).2=tx at *
  go_enter func93,ntmps93;go_upto_region 1 with fail
  go_cut [4] (λ A wx=>∃ g,A=.pointer (some ⟨g,0,none⟩)/\wx.heap[g]? =some (.cells #[.int .i64 tc,.float .f64 tx] 53 (0,0))/\Xc w q a b x n s wx)
  case first=>
   go_region_law (first
     |(go_simp;go_at_call 114;refine (HC.out _ ((Zr_ _ _).drew)).mono ?_;rintro e w4 ⟨u4,rfl,hu4,hn4,m4⟩;have D4:Ze [] w1 w4:=((Zr_ [] _).drew).trans m4;obtain ⟨g4,cap4,rfl,-⟩:=Yd hu4 (by omega);have r0:=Ji hu4 HROW.out.1;have r1:=Ji hu4 HROW.out.2;have l4:=Ys hu4 (g:=g4) rfl;obtain ⟨c7',c19'⟩:=HK.out _ D4;have hk4:=Nat.lt_of_lt_of_le hlt D4.size;clear hu4 hn4 m4)
     |(go_simp;go_at_call 114;refine (HC.out _ (((Zr_ _ _).alloc _).drew)).mono ?_;rintro e w4 ⟨u4,rfl,hu4,hn4,m4⟩;have D4:Ze [] w1 w4:=(((Zr_ [] _).alloc _).drew).trans m4;have G4:=m4.at (k:=w1.heap.size) (o:=.cells #[.int .i64 0,.float .f64 0] 53 (0,0)) (heap_alloc_new w1 (.cells #[.int .i64 0,.float .f64 0] 53)) (by simp);have g0:=Za (i:=0) G4 rfl;have g1:=Za (i:=1) G4 rfl;have f0:=Zb (i:=0) G4;have f1:=Zb (i:=1) G4;obtain ⟨g4,cap4,rfl,-⟩:=Yd hu4 (by omega);have r0:=Ji hu4 HROW.out.1;have r1:=Ji hu4 HROW.out.2;have l4:=Ys hu4 (g:=g4) rfl;obtain ⟨c7',c19'⟩:=HK.out _ D4;have hk4:=Nat.lt_of_lt_of_le hlt D4.size;clear hu4 hn4 m4))
   all_goals
    go_wp2_with fail;go_meet
    first
    |exact ⟨_,rfl,heap_alloc_new _ _,H.out.mod0 (by repeat (first|exact D4|with_reducible exact Zr_ _ _|with_reducible refine Ze.drew ?_|with_reducible refine Ze.alloc ?_ _|with_reducible refine Ze.setCell ?_ _ _ (.inr (Nat.le_refl _))))⟩
    |exact ⟨_,rfl,Zd _ (Zd _ G4),H.out.mod0 (by repeat (first|exact D4|with_reducible exact Zr_ _ _|with_reducible refine Ze.drew ?_|with_reducible refine Ze.alloc ?_ _|with_reducible refine Ze.setCell ?_ _ _ (.inr (Nat.le_refl _))))⟩
  case rest=>
   obtain ⟨g,rfl,BL,G1⟩:=hcut;obtain ⟨v0,c16,f16,hv,⟨cs,hcs,hcs16⟩,hnk,-⟩:=G1.wasV;obtain ⟨gw,capw,rfl,-⟩:=Yd hv (by omega);have hwy:(x.was.map (Value.float .f64))[x.written]? =some (.float .f64 (x.was.getD x.written 0)):=by simp [hw]
   have cw:=U7 hv hwy;have lgw:=Ys hv (g:=gw) rfl;have HV:=Zh_ hv;have HWY:=Zh_ hwy;have HCS:=Zh_ hcs;have HCS16:=Zh_ hcs16;have HNK:=Zh_ (show q.k≠gw from λ e=>hnk gw rfl e.symm);clear c7 c19 hwy hlt c18 f18 hv hcs hcs16 hnk;have c1:=(G1.cell 1 (u:=.int .i64 0) (λ _ _ _=>rfl)).1;have c2:=(G1.cell 2 (u:=.int .i64 1) (λ _ _ _=>rfl)).1;have c3:=(G1.cell 3 (u:=.int .i64 2) (λ _ _ _=>rfl)).1;have c4:=(G1.cell 4 (u:=.int .i64 3) (λ _ _ _=>rfl)).1;have c5:=(G1.cell 5 (u:=.int .i64 (Z4 x.c1)) (λ _ _ _=>rfl)).1;have c6:=(G1.cell 6 (u:=.int .i64 (Zw x.c0 x.c1)) (λ _ _ _=>rfl)).1;have c14:=(G1.cell 14 (u:=.int .u64 x.stamp) (λ _ _ _=>rfl)).1;have c19:=(G1.cell 19 (u:=.int .i64 x.written) (λ _ _ _=>rfl)).1;obtain ⟨c18,f18⟩:=G1.noBack HNB.out;have b0:=Za (i:=0) BL rfl;have b1:=Za (i:=1) BL rfl;have hgl:=lt_of_block BL;have hlt:=G1.lt;have HGK:=Zh_ (show q.k≠g from λ e=>by have:=Zn BL;rw [<-e,Zn HCS.out] at this;exact absurd this (by decide));have BL:=Zh_ BL;have hsz:=G1.size;have H1:=Zh_ G1;clear G1 H HK HC HM HMB HROW;generalize (x.was.getD x.written 0)=y at *
   generalize wc=w2 at *
   have HK:=Zh_ (λ (wx:World) (D:Ze [] w2 wx)=>(show wx.cell? ⟨q.k,1,none⟩=some (.int .i64 0)/\wx.cell? ⟨q.k,2,none⟩=some (.int .i64 1)/\wx.cell? ⟨q.k,3,none⟩=some (.int .i64 2)/\wx.cell? ⟨q.k,4,none⟩=some (.int .i64 3)/\wx.cell? ⟨q.k,5,none⟩=some (.int .i64 (Z4 x.c1))/\wx.cell? ⟨q.k,6,none⟩=some (.int .i64 (Zw x.c0 x.c1))/\wx.cell? ⟨q.k,14,none⟩=some (.int .u64 x.stamp)/\wx.cell? ⟨q.k,19,none⟩=some (.int .i64 x.written)/\wx.cell? ⟨q.k,16,none⟩=some (.slice (some ⟨gw,0,none⟩) x.was.length capw)/\wx.cell? ⟨gw,x.written,none⟩=some (.float .f64 y)/\wx.cell? ⟨g,0,none⟩=some (.int .i64 tc)/\wx.cell? ⟨g,1,none⟩=some (.float .f64 tx) from ⟨((H1.out.mod0 D).cell 1 (λ _ _ _=>rfl)).1,((H1.out.mod0 D).cell 2 (λ _ _ _=>rfl)).1,((H1.out.mod0 D).cell 3 (λ _ _ _=>rfl)).1,((H1.out.mod0 D).cell 4 (λ _ _ _=>rfl)).1,((H1.out.mod0 D).cell 5 (λ _ _ _=>rfl)).1,((H1.out.mod0 D).cell 6 (λ _ _ _=>rfl)).1,((H1.out.mod0 D).cell 14 (λ _ _ _=>rfl)).1,((H1.out.mod0 D).cell 19 (λ _ _ _=>rfl)).1,Za (D.at HCS.out (by simp)) HCS16.out,U7 (Zs HV.out D (by simp)) HWY.out,Za (D.at BL.out (by simp)) rfl,Za (D.at BL.out (by simp)) rfl⟩));go_upto_region 2 with fail
   go_cut [47] (λ _ wx=>Xc w q a b {x with back:=some x.wr} n s wx)
   case first=>
    go_region_held3 (λ wx=>wx.cell? ⟨q.k,1,none⟩=some (.int .i64 0)/\wx.cell? ⟨q.k,2,none⟩=some (.int .i64 1)/\wx.cell? ⟨q.k,3,none⟩=some (.int .i64 2)/\wx.cell? ⟨q.k,4,none⟩=some (.int .i64 3)/\wx.cell? ⟨q.k,5,none⟩=some (.int .i64 (Z4 x.c1))/\wx.cell? ⟨q.k,6,none⟩=some (.int .i64 (Zw x.c0 x.c1))/\wx.cell? ⟨q.k,14,none⟩=some (.int .u64 x.stamp)/\wx.cell? ⟨q.k,19,none⟩=some (.int .i64 x.written)/\wx.cell? ⟨q.k,16,none⟩=some (.slice (some ⟨gw,0,none⟩) x.was.length capw)/\wx.cell? ⟨gw,x.written,none⟩=some (.float .f64 y)/\wx.cell? ⟨g,0,none⟩=some (.int .i64 tc)/\wx.cell? ⟨g,1,none⟩=some (.float .f64 tx)) (first|exact ⟨c1,c2,c3,c4,c5,c6,c14,c19,c16,cw,b0,b1⟩|(obtain ⟨k1,k2,k3,k4,k5,k6,k14,k19,k16,kw,kb0,kb1⟩:=HK.out _ D4;exact ⟨k1,k2,k3,k4,k5,k6,k14,k19,k16,kw,kb0,kb1⟩)|(obtain ⟨k1,k2,k3,k4,k5,k6,k14,k19,k16,kw,kb0,kb1⟩:=HK.out _ D4;exact ⟨Yx k1 (X1 (by decide)),Yx k2 (X1 (by decide)),Yx k3 (X1 (by decide)),Yx k4 (X1 (by decide)),Yx k5 (X1 (by decide)),Yx k6 (X1 (by decide)),Yx k14 (X1 (by decide)),Yx k19 (X1 (by decide)),Yx k16 (X1 (by decide)),Yx kw (Ht HNK.out),Yx kb0 (Ht HGK.out),Yx kb1 (Ht HGK.out)⟩))
     (first|(go_at_call 115;refine (write11 0 1 2 3 (Z4 x.c1) (Zw x.c0 x.c1) tc (IntKind.u64.wrap (x.stamp+1)) y tx _).mono ?_;rintro e w4 ⟨k4,rfl,B4,s4,m4⟩;have D4:Ze [] w2 w4:=((Zr_ [] _).drew).trans m4;have G4:=Zh_ (H1.out.mod0 D4);obtain ⟨d18,e18⟩:=G4.out.noBack HNB.out;have hlt4:=G4.out.lt;have B4:=Zh_ B4;clear m4))
    all_goals
     go_wp2_with fail;go_meet;exact G4.out.newBack (r':=x.wr) (by rw [HB.out];exact B4.out) (Nat.le_trans hsz s4)
   case rest=>
    have G2:=hcut;clear hcut c1 c2 c3 c4 c5 c6 c14 c19 c16 f16 c18 f18 b0 b1 cw hgl hlt HGK BL H1 HK hsz lgw HV HWY HCS HCS16 HNK;obtain ⟨k,hk,c18,f18,hput⟩:=G2.back rfl;have hL:=Rc G2.memA x.wr HI.out hk;have hlt:=G2.lt;have HPUT:=Zh_ hput;clear hput hk G2;obtain ⟨z,hz⟩:∃ z,z=x.wr.over s:=⟨_,rfl⟩;rw [<-hz] at hL;have HZ:=Zh_ hz;clear hz
    by_cases hlast:x.written+1=x.was.length
    ·have HLAST:=Zh_ hlast;have hd:((x.written:Int)==x.was.length)=false:=by simp;omega
     have hd1:((x.written:Int)+1==x.was.length)=true:=by simp;omega
     clear hlast;cases z
     ·go_wp2_with fail;refine hL.mono ?_;rintro e w5 ⟨rfl,M5,k5,m5⟩;have G5:=HPUT.out _ _ _ M5 k5 m5;obtain ⟨v5,c16,f16,hv5,-,-,-⟩:=G5.wasV;obtain ⟨av5,cap5,rfl⟩:=Zo hv5;have c19:=(G5.cell 19 (u:=.int .i64 x.written) (λ _ _ _=>rfl)).1;have hlt:=G5.lt;have G5:=Zh_ G5;clear hv5 M5 k5 m5 hL HPUT c18 f18;go_wp2_with fail;go_quiet (fail);go_wp2;go_end0;rw [Jh HZ.out.symm hw];exact ⟨rfl,n,G5.out.drewN _,λ _=>NX.out.trans (by show Xe 6=Xe x.part;rw [HP.out])⟩
     ·go_wp2_with fail;refine hL.mono ?_;rintro e w5 ⟨rfl,M5,k5,m5⟩;have G5:=HPUT.out _ _ _ M5 k5 m5;obtain ⟨_,-,c18',f18',-⟩:=G5.back rfl;have hlt:=G5.lt;have c19:=(G5.cell 19 (u:=.int .i64 x.written) (λ _ _ _=>rfl)).1;have f19:=(G5.cell 19 (u:=.int .i64 x.written) (λ _ _ _=>rfl)).2;have G6:=G5.dropBack.setX 19 (.int .i64 (x.written+1:Nat)) {x with back:=none,written:=x.written+1} (λ _=>rfl) rfl rfl rfl rfl rfl;obtain ⟨v5,c16,f16,hv5,-,-,-⟩:=G5.wasV;obtain ⟨av5,cap5,rfl⟩:=Zo hv5;have G6:=Zh_ G6;clear hv5 M5 k5 m5 hL HPUT c18 f18 G5;go_wp2_with fail;go_quiet (fail);go_wp2_with fail;refine (V2 (G6.out.drewN _) 7 (by decide) (by decide)).mono ?_;rintro e w6 ⟨rfl,G7⟩;go_wp2;go_end0;rw [Fs HZ.out.symm HLAST.out];exact ⟨rfl,G7⟩
    ·have HLAST:=Zh_ hlast;have hd:((x.written:Int)==x.was.length)=false:=by simp;omega
     have hd1:((x.written:Int)+1==x.was.length)=false:=by simp;omega
     clear hlast;cases z
     ·go_wp2_with fail;refine hL.mono ?_;rintro e w5 ⟨rfl,M5,k5,m5⟩;have G5:=HPUT.out _ _ _ M5 k5 m5;obtain ⟨v5,c16,f16,hv5,-,-,-⟩:=G5.wasV;obtain ⟨av5,cap5,rfl⟩:=Zo hv5;have c19:=(G5.cell 19 (u:=.int .i64 x.written) (λ _ _ _=>rfl)).1;have hlt:=G5.lt;have G5:=Zh_ G5;clear hv5 M5 k5 m5 hL HPUT c18 f18;go_wp2_with fail;go_quiet (fail);go_wp2;go_end0;rw [Jh HZ.out.symm hw];exact ⟨rfl,n,G5.out.drewN _,λ _=>NX.out.trans (by show Xe 6=Xe x.part;rw [HP.out])⟩
     ·go_wp2_with fail;refine hL.mono ?_;rintro e w5 ⟨rfl,M5,k5,m5⟩;have G5:=HPUT.out _ _ _ M5 k5 m5;obtain ⟨_,-,c18',f18',-⟩:=G5.back rfl;have hlt:=G5.lt;have c19:=(G5.cell 19 (u:=.int .i64 x.written) (λ _ _ _=>rfl)).1;have f19:=(G5.cell 19 (u:=.int .i64 x.written) (λ _ _ _=>rfl)).2;have G6:=G5.dropBack.setX 19 (.int .i64 (x.written+1:Nat)) {x with back:=none,written:=x.written+1} (λ _=>rfl) rfl rfl rfl rfl rfl;obtain ⟨v5,c16,f16,hv5,-,-,-⟩:=G5.wasV;obtain ⟨av5,cap5,rfl⟩:=Zo hv5;have G6:=Zh_ G6;clear hv5 M5 k5 m5 hL HPUT c18 f18 G5;go_wp2_with fail;go_quiet (fail);go_wp2;go_end0;rw [Fr HZ.out.symm HLAST.out];exact ⟨rfl,n,G6.out.drewN _,λ _=>NX.out.trans (by show Xe 6=Xe x.part;rw [HP.out])⟩
 ·have e:x={x with back:=some x.wr}:=by
   have:x.wr=r:=by unfold Z2.wr;rw [hb]
   rw [this];cases x
   simp at hb ⊢
   exact hb
  obtain ⟨k18,-,c18a,f18a,-⟩:=h.back hb;have hlt:=h.lt;have G2:Xc w q a b {x with back:=some x.wr} n s w1:=e ▸ h;have HB:=Zh_ hb;clear e hb h;go_enter func93,ntmps93;go_upto_region 3 with fail;clear c18a f18a hlt;obtain ⟨k,hk,c18,f18,hput⟩:=G2.back rfl;have hL:=Rc G2.memA x.wr HI.out hk;have hlt:=G2.lt;have HPUT:=Zh_ hput;clear hput hk G2;obtain ⟨z,hz⟩:∃ z,z=x.wr.over s:=⟨_,rfl⟩;rw [<-hz] at hL;have HZ:=Zh_ hz;clear hz
  by_cases hlast:x.written+1=x.was.length
  ·have HLAST:=Zh_ hlast;have hd:((x.written:Int)==x.was.length)=false:=by simp;omega
   have hd1:((x.written:Int)+1==x.was.length)=true:=by simp;omega
   clear hlast;cases z
   ·go_wp2_with fail;refine hL.mono ?_;rintro e w5 ⟨rfl,M5,k5,m5⟩;have G5:=HPUT.out _ _ _ M5 k5 m5;obtain ⟨v5,c16,f16,hv5,-,-,-⟩:=G5.wasV;obtain ⟨av5,cap5,rfl⟩:=Zo hv5;have c19:=(G5.cell 19 (u:=.int .i64 x.written) (λ _ _ _=>rfl)).1;have hlt:=G5.lt;have G5:=Zh_ G5;clear hv5 M5 k5 m5 hL HPUT c18 f18;go_wp2_with fail;go_quiet (fail);go_wp2;go_end0;rw [Jh HZ.out.symm hw];exact ⟨rfl,n,G5.out.drewN _,λ _=>NX.out.trans (by show Xe 6=Xe x.part;rw [HP.out])⟩
   ·go_wp2_with fail;refine hL.mono ?_;rintro e w5 ⟨rfl,M5,k5,m5⟩;have G5:=HPUT.out _ _ _ M5 k5 m5;obtain ⟨_,-,c18',f18',-⟩:=G5.back rfl;have hlt:=G5.lt;have c19:=(G5.cell 19 (u:=.int .i64 x.written) (λ _ _ _=>rfl)).1;have f19:=(G5.cell 19 (u:=.int .i64 x.written) (λ _ _ _=>rfl)).2;have G6:=G5.dropBack.setX 19 (.int .i64 (x.written+1:Nat)) {x with back:=none,written:=x.written+1} (λ _=>rfl) rfl rfl rfl rfl rfl;obtain ⟨v5,c16,f16,hv5,-,-,-⟩:=G5.wasV;obtain ⟨av5,cap5,rfl⟩:=Zo hv5;have G6:=Zh_ G6;clear hv5 M5 k5 m5 hL HPUT c18 f18 G5;go_wp2_with fail;go_quiet (fail);go_wp2_with fail;refine (V2 (G6.out.drewN _) 7 (by decide) (by decide)).mono ?_;rintro e w6 ⟨rfl,G7⟩;go_wp2;go_end0;rw [Fs HZ.out.symm HLAST.out];exact ⟨rfl,G7⟩
  ·have HLAST:=Zh_ hlast;have hd:((x.written:Int)==x.was.length)=false:=by simp;omega
   have hd1:((x.written:Int)+1==x.was.length)=false:=by simp;omega
   clear hlast;cases z
   ·go_wp2_with fail;refine hL.mono ?_;rintro e w5 ⟨rfl,M5,k5,m5⟩;have G5:=HPUT.out _ _ _ M5 k5 m5;obtain ⟨v5,c16,f16,hv5,-,-,-⟩:=G5.wasV;obtain ⟨av5,cap5,rfl⟩:=Zo hv5;have c19:=(G5.cell 19 (u:=.int .i64 x.written) (λ _ _ _=>rfl)).1;have hlt:=G5.lt;have G5:=Zh_ G5;clear hv5 M5 k5 m5 hL HPUT c18 f18;go_wp2_with fail;go_quiet (fail);go_wp2;go_end0;rw [Jh HZ.out.symm hw];exact ⟨rfl,n,G5.out.drewN _,λ _=>NX.out.trans (by show Xe 6=Xe x.part;rw [HP.out])⟩
   ·go_wp2_with fail;refine hL.mono ?_;rintro e w5 ⟨rfl,M5,k5,m5⟩;have G5:=HPUT.out _ _ _ M5 k5 m5;obtain ⟨_,-,c18',f18',-⟩:=G5.back rfl;have hlt:=G5.lt;have c19:=(G5.cell 19 (u:=.int .i64 x.written) (λ _ _ _=>rfl)).1;have f19:=(G5.cell 19 (u:=.int .i64 x.written) (λ _ _ _=>rfl)).2;have G6:=G5.dropBack.setX 19 (.int .i64 (x.written+1:Nat)) {x with back:=none,written:=x.written+1} (λ _=>rfl) rfl rfl rfl rfl rfl;obtain ⟨v5,c16,f16,hv5,-,-,-⟩:=G5.wasV;obtain ⟨av5,cap5,rfl⟩:=Zo hv5;have G6:=Zh_ G6;clear hv5 M5 k5 m5 hL HPUT c18 f18 G5;go_wp2_with fail;go_quiet (fail);go_wp2;go_end0;rw [Fr HZ.out.symm HLAST.out];exact ⟨rfl,n,G6.out.drewN _,λ _=>NX.out.trans (by show Xe 6=Xe x.part;rw [HP.out])⟩
end
section
attribute [local go_sem] Zj
variable {w w' w0 w1 w2:World} {p p':MP} {q q':RP} {x x':Yg} {m:Zl} {a b:Nat} {s s':Zh} {S:List Nat} {r r':Y1}
def RDid (w:World) (q:RP) (a b:Nat) (x:Yg) (s:Zh) (e:Ending) (w':World):Prop:=e=.returned (.tuple #[])/\Ql w q a b x s w'
def RRun (w:World) (q:RP) (a b:Nat) (x:Yg) (s:Zh) (e:Ending) (w':World):Prop:=∃ v,RDid w q a b (x.run s v).1 (x.run s v).2 e w'
theorem Mr {r:Y1} (hr:x.read=some r) (v:Nat):x.run s v=x.goOn r s:=by unfold Yg.run;rw [hr]
theorem Mq {v:Nat} {cl:Int} {xx:Nat} {fs:Bool} (hr:x.read=none) (hA:(⟨1,cl,xx,fs⟩:Xg)=(x.m.step v).2):x.run s v=Yg.goOn {x with m:=(x.m.step v).1} (Qb x.c0 x.c1 cl x.com.st) s:=by
 unfold Yg.run;rw [hr,<-hA];rfl
theorem run_end {v:Nat} {cl:Int} {xx:Nat} {fs:Bool} (hr:x.read=none) (hA:(⟨4,cl,xx,fs⟩:Xg)=(x.m.step v).2):x.run s v=({x with m:=(x.m.step v).1,part:=3},s):=by
 unfold Yg.run;rw [hr,<-hA];rfl
theorem run_on {v:Nat} {kd cl:Int} {xx:Nat} {fs:Bool} (hr:x.read=none) (hA:(⟨kd,cl,xx,fs⟩:Xg)=(x.m.step v).2) (h1:kd≠1) (h4:kd≠4):x.run s v=({x with m:=(x.m.step v).1},s):=by
 unfold Yg.run;rw [hr,<-hA];simp only [h1,h4,if_false]
theorem Ti (h:r.over s=false):x.goOn r s=({x with read:=some (r.next s)},r.mem s):=by unfold Yg.goOn;rw [h];rfl
theorem Dz (h:r.over s=true):x.goOn r s=({x with m:=x.m.give (r.next s).value,read:=none},r.mem s):=by unfold Yg.goOn;rw [h];rfl
theorem Gz {m:Zl} (o:Yl m):m.reads.length<=4096:=by
 have h1:=o.reads;have h2:=o.used1;have h3:=o.fuel;split at h1 <;> omega
theorem run_some (h:Ql w q a b x s w1) (hr:x.read=some r) (hi:r.Inv) (o:Yl x.m) (hw:x.m.waits=true):Calls Tryz.prog 238 #[.pointer (some ⟨q.k,0,none⟩),.pointer (some ⟨a,0,none⟩)] w1 (RRun w q a b x s):=by
 have HI:=Zh_ hi;have HW:=Zh_ hw;have HOK:=Zh_ o;have HR:=Zh_ (Gz o);have HRD:=Zh_ hr;have G2:Ql w q a b {x with read:=some r} s w1:=by
  have e:x={x with read:=some r}:=by cases x;simp at hr ⊢;exact hr
  exact e ▸ h
 obtain ⟨k0,-,c13a,f13a,-⟩:=h.read hr;have hlt:=h.lt;clear hi hw o hr h;go_enter func238,ntmps238;go_upto_region 6 with fail;clear c13a f13a hlt;obtain ⟨k,hk,c13,f13,hput⟩:=G2.read rfl;have hL:=Rq G2.memA _ HI.out hk;have hlt:=G2.lt;have HPUT:=Zh_ hput;clear hput hk G2;obtain ⟨z,hz⟩:∃ z,z=r.over s:=⟨_,rfl⟩;rw [<-hz] at hL;have HZ:=Zh_ hz;clear hz;cases z
 ·go_wp2_with fail;refine hL.mono ?_;rintro e w5 ⟨rfl,M5,k5,m5⟩;obtain ⟨G5,-⟩:=HPUT.out _ _ _ M5 k5 m5;have G5:=Zh_ G5;clear M5 k5 m5 hL HPUT c13 f13;go_wp2;go_end0;refine ⟨0,?_⟩;rw [Mr HRD.out,Ti HZ.out.symm];exact ⟨rfl,G5.out⟩
 ·go_wp2_with fail;refine hL.mono ?_;rintro e w5 ⟨rfl,M5,k5,m5⟩;obtain ⟨G5,c13'⟩:=HPUT.out _ _ _ M5 k5 m5;have hM5:=G5.memA;obtain ⟨p5,hm5,hmb5,hput5⟩:=G5.mach;have hc:=Lt (hm5.mod ((Zr_ [] _).drew) (by simp)) HW.out (HOK.out.room HW.out) HR.out (r.next s).value;rw [hmb5] at hc;have c6:=(G5.cell 6 (u:=.pointer (some ⟨q.p.mb,0,none⟩)) (λ r hm _=>by rw [<-hm];rfl)).1;have hlt:=G5.lt;have HK5:=Zh_ (show w5.drew.heap[k]? =some (.cells (r.next s).arr 287 (0,0)) from k5);have HP5:=Zh_ (λ w' m (d:Zk w5.drew p5 m w')=>hput5 w' m (d.pre ((Zr_ _ _).drew)));have C13:=Zh_ c13';clear G5 M5 k5 m5 hL HPUT c13 f13 hm5 hmb5 hput5 hM5;go_upto_region 8 with fail
  go_cut [64] (λ _ wx=>Ql w q a b {x with m:=(x.m).give (r.next s).value,read:=some (r.next s)} (r.mem s) wx)
  case first=>
   go_region_held3 (λ wx=>wx.cell? ⟨q.k,6,none⟩=some (.pointer (some ⟨q.p.mb,0,none⟩))/\wx.cell? ⟨q.k,13,none⟩=some (.pointer (some ⟨k,0,none⟩))) (first|exact ⟨c6,c13'⟩|exact ⟨d6,d13⟩)
    (first
     |(go_at_call 242;refine (Mo _ HK5.out).mono ?_;rintro e w6 ⟨rfl,hw6⟩;have hw6':=hw6.symm;subst hw6')
     |(go_at_call 110;refine hc.mono ?_;rintro e w6 ⟨rfl,D6⟩;have G6:=Zh_ (HP5.out _ _ D6).1;have d13:=((HP5.out _ _ D6).2 13).trans C13.out;have d6:=(G6.out.cell 6 (u:=.pointer (some ⟨q.p.mb,0,none⟩)) (λ r hm _=>by rw [<-hm];rfl)).1;clear D6))
   all_goals
    go_wp2_with fail;go_meet;exact G6.out
  case rest=>
   obtain ⟨k9,-,c13,f13,-⟩:=hcut.read rfl;have hlt:=hcut.lt;have G7:=Zh_ hcut.dropRead;clear hcut HP5 HK5 hc c6 c13';go_wp2;go_end0;refine ⟨0,?_⟩;rw [Mr HRD.out,Dz HZ.out.symm];exact ⟨rfl,G7.out⟩
theorem Cr (c0 c1 c st:Int):(Qb c0 c1 c st).Inv:=⟨by simp [Qb],by simp [Qb]⟩
theorem run_none (h:Ql w q a b x s w1) (hr:x.read=none) (hp:x.part=2) (o:Yl x.m):Calls Tryz.prog 238 #[.pointer (some ⟨q.k,0,none⟩),.pointer (some ⟨a,0,none⟩)] w1 (RRun w q a b x s):=by
 have HRD:=Zh_ hr;have HP:=Zh_ hp;obtain ⟨p,hm,hmb,hput⟩:=h.mach;have c6:=(h.cell 6 (u:=.pointer (some ⟨q.p.mb,0,none⟩)) (λ r hm _=>by rw [<-hm];rfl)).1;obtain ⟨c13,-⟩:=h.noRead hr;have hc:=step_c hm o;rw [hmb] at hc;have hlt:=h.lt;have HPUT:=Zh_ hput;clear hput hm hmb hr hp h;go_enter func238,ntmps238;go_wp2_with fail;refine hc.mono ?_;rintro e w2 ⟨v,he,D2⟩;obtain ⟨⟨kd,cl,xx,fs⟩,hA⟩:∃ A,A=(x.m.step v).2:=⟨_,rfl⟩;rw [<-hA] at he;replace he:e=.returned (.agg #[.int .i64 kd,.int .i64 cl,.float .f64 xx,.bool fs]):=he;subst he;obtain ⟨G2,-⟩:=HPUT.out _ _ D2;clear c6 c13 D2 hc HPUT;have hlt:=G2.lt;have HA:=Zh_ hA;clear hA;have H2:=Zh_ G2;clear G2
 by_cases k4:kd=4
 ·subst k4;have c9:=(H2.out.cell 9 (u:=.int .i64 x.part) (λ _ _ _=>rfl)).1;have f9:=(H2.out.cell 9 (u:=.int .i64 x.part) (λ _ _ _=>rfl)).2;go_wp2;go_end0;refine ⟨v,?_⟩;rw [run_end HRD.out HA.out];exact ⟨rfl,(Ql.setX (x':={x with m:=(x.m.step v).1,part:=3}) H2.out 9 _ (λ _=>rfl) rfl rfl rfl rfl).alloc _⟩
 ·have d4:(kd==4)=false:=by simp [k4]
  by_cases k1:kd=1
  ·subst k1;go_upto_region 5 with fail;have BL:=Zh_ (Zc w2 (.cells #[.int .i64 1,.int .i64 cl,.float .f64 xx,.bool fs] 152));have G3:=H2.out.alloc (.cells #[.int .i64 1,.int .i64 cl,.float .f64 xx,.bool fs] 152);clear H2 hlt;generalize w2.alloc (.cells #[.int .i64 1,.int .i64 cl,.float .f64 xx,.bool fs] 152)=w3 at *
   generalize w2.heap.size=g at *
   have c0:=(G3.cell 0 (u:=.int .i64 0) (λ _ _ _=>rfl)).1;have c1:=(G3.cell 1 (u:=.int .i64 1) (λ _ _ _=>rfl)).1;have c2:=(G3.cell 2 (u:=.int .i64 2) (λ _ _ _=>rfl)).1;have c3:=(G3.cell 3 (u:=.int .i64 3) (λ _ _ _=>rfl)).1;have c4:=(G3.cell 4 (u:=.int .i64 (Z4 x.c1)) (λ _ _ _=>rfl)).1;have c5:=(G3.cell 5 (u:=.int .i64 (Zw x.c0 x.c1)) (λ _ _ _=>rfl)).1;have c12:=(G3.cell 12 (u:=.pointer (some ⟨q.cm,0,none⟩)) (λ r _ hc=>by rw [<-hc];rfl)).1;obtain ⟨c13,f13⟩:=G3.noRead HRD.out;have g1:w3.cell? ⟨g,1,none⟩=some (.int .i64 cl):=Za BL.out rfl;have hgl:=lt_of_block BL.out;have hlt:=G3.lt;have hsz:=G3.size;have KC:=Zh_ (show w3.drew.heap[q.cm]? =some (.cells x.com.arr 189 (0,0)) from G3.comA.1);have HGK:=Zh_ (show q.k≠g from λ e=>by
    obtain ⟨r,h1,_,_,h4,_⟩:=G3;have t:=Zn BL.out;rw [<-e,<-h4,Zn h1.hd] at t;exact absurd t (by decide))
   have H3:=Zh_ G3;clear G3
   go_cut [41] (λ _ wx=>Ql w q a b {x with m:=(x.m.step v).1,read:=some (Qb x.c0 x.c1 cl x.com.st)} s wx)
   case first=>
    go_region_held3 (λ wx=>wx.cell? ⟨q.k,0,none⟩=some (.int .i64 0)/\wx.cell? ⟨q.k,1,none⟩=some (.int .i64 1)/\wx.cell? ⟨q.k,2,none⟩=some (.int .i64 2)/\wx.cell? ⟨q.k,3,none⟩=some (.int .i64 3)/\wx.cell? ⟨q.k,4,none⟩=some (.int .i64 (Z4 x.c1))/\wx.cell? ⟨q.k,5,none⟩=some (.int .i64 (Zw x.c0 x.c1))/\wx.cell? ⟨q.k,12,none⟩=some (.pointer (some ⟨q.cm,0,none⟩))/\wx.cell? ⟨g,1,none⟩=some (.int .i64 cl)) (first|exact ⟨c0,c1,c2,c3,c4,c5,c12,g1⟩|exact ⟨d0,d1,d2,d3,d4,d5,d12,e1⟩|exact ⟨Yx d0 (X1 (by decide)),Yx d1 (X1 (by decide)),Yx d2 (X1 (by decide)),Yx d3 (X1 (by decide)),Yx d4 (X1 (by decide)),Yx d5 (X1 (by decide)),Yx d12 (X1 (by decide)),Yx e1 (Ht HGK.out)⟩)
     (first
      |(go_at_call 236;refine (Tq _ KC.out).mono ?_;rintro e w4 ⟨rfl,hw4⟩;have hw4':=hw4.symm;subst hw4')
      |(go_at_call 240;refine (read11 0 1 2 3 (Z4 x.c1) (Zw x.c0 x.c1) cl x.com.st _).mono ?_;rintro e w4 ⟨k4,rfl,B4,s4,m4⟩;have D4:Ze [] w3 w4:=((Zr_ [] _).drew).trans m4;have G4:=Zh_ (H3.out.mod0 D4);obtain ⟨d13,e13⟩:=G4.out.noRead HRD.out;have hlt4:=G4.out.lt;have B4:=Zh_ B4;have d0:=(G4.out.cell 0 (u:=.int .i64 0) (λ _ _ _=>rfl)).1;have d1:=(G4.out.cell 1 (u:=.int .i64 1) (λ _ _ _=>rfl)).1;have d2:=(G4.out.cell 2 (u:=.int .i64 2) (λ _ _ _=>rfl)).1;have d3:=(G4.out.cell 3 (u:=.int .i64 3) (λ _ _ _=>rfl)).1;have d4:=(G4.out.cell 4 (u:=.int .i64 (Z4 x.c1)) (λ _ _ _=>rfl)).1;have d5:=(G4.out.cell 5 (u:=.int .i64 (Zw x.c0 x.c1)) (λ _ _ _=>rfl)).1;have d12:=(G4.out.cell 12 (u:=.pointer (some ⟨q.cm,0,none⟩)) (λ r _ hc=>by rw [<-hc];rfl)).1;have e1:=Za (i:=1) (D4.at BL.out (by simp)) rfl;clear m4))
    all_goals
     go_wp2_with fail;go_meet;exact G4.out.newRead (r':=(Qb x.c0 x.c1 cl x.com.st)) B4.out (Nat.le_trans hsz s4)
   case rest=>
    have G2:=hcut;have HI:=Zh_ (Cr x.c0 x.c1 cl x.com.st);have o':=Hd o v;have hw:(x.m.step v).1.waits=true:=Dq x.m v (by rw [<-HA.out]);have HW:=Zh_ hw;have HOK:=Zh_ o';have HR:=Zh_ (Gz o');clear hcut c0 c1 c2 c3 c4 c5 c12 c13 f13 g1 hgl hlt hsz KC HGK H3 hw o' o;obtain ⟨k,hk,c13,f13,hput⟩:=G2.read rfl;have hL:=Rq G2.memA _ HI.out hk;have hlt:=G2.lt;have HPUT:=Zh_ hput;clear hput hk G2;obtain ⟨z,hz⟩:∃ z,z=(Qb x.c0 x.c1 cl x.com.st).over s:=⟨_,rfl⟩;rw [<-hz] at hL;have HZ:=Zh_ hz;clear hz;cases z
    ·go_wp2_with fail;refine hL.mono ?_;rintro e w5 ⟨rfl,M5,k5,m5⟩;obtain ⟨G5,-⟩:=HPUT.out _ _ _ M5 k5 m5;have G5:=Zh_ G5;clear M5 k5 m5 hL HPUT c13 f13;go_wp2;go_end0;refine ⟨v,?_⟩;rw [Mq HRD.out HA.out,Ti HZ.out.symm];exact ⟨rfl,G5.out⟩
    ·go_wp2_with fail;refine hL.mono ?_;rintro e w5 ⟨rfl,M5,k5,m5⟩;obtain ⟨G5,c13'⟩:=HPUT.out _ _ _ M5 k5 m5;have hM5:=G5.memA;obtain ⟨p5,hm5,hmb5,hput5⟩:=G5.mach;have hc:=Lt (hm5.mod ((Zr_ [] _).drew) (by simp)) HW.out (HOK.out.room HW.out) HR.out ((Qb x.c0 x.c1 cl x.com.st).next s).value;rw [hmb5] at hc;have c6:=(G5.cell 6 (u:=.pointer (some ⟨q.p.mb,0,none⟩)) (λ r hm _=>by rw [<-hm];rfl)).1;have hlt:=G5.lt;have HK5:=Zh_ (show w5.drew.heap[k]? =some (.cells ((Qb x.c0 x.c1 cl x.com.st).next s).arr 287 (0,0)) from k5);have HP5:=Zh_ (λ w' m (d:Zk w5.drew p5 m w')=>hput5 w' m (d.pre ((Zr_ _ _).drew)));have C13:=Zh_ c13';clear G5 M5 k5 m5 hL HPUT c13 f13 hm5 hmb5 hput5 hM5;go_upto_region 8 with fail
     go_cut [64] (λ _ wx=>Ql w q a b {x with m:=((x.m.step v).1).give ((Qb x.c0 x.c1 cl x.com.st).next s).value,read:=some ((Qb x.c0 x.c1 cl x.com.st).next s)} ((Qb x.c0 x.c1 cl x.com.st).mem s) wx)
     case first=>
      go_region_held3 (λ wx=>wx.cell? ⟨q.k,6,none⟩=some (.pointer (some ⟨q.p.mb,0,none⟩))/\wx.cell? ⟨q.k,13,none⟩=some (.pointer (some ⟨k,0,none⟩))) (first|exact ⟨c6,c13'⟩|exact ⟨d6,d13⟩)
       (first
        |(go_at_call 242;refine (Mo _ HK5.out).mono ?_;rintro e w6 ⟨rfl,hw6⟩;have hw6':=hw6.symm;subst hw6')
        |(go_at_call 110;refine hc.mono ?_;rintro e w6 ⟨rfl,D6⟩;have G6:=Zh_ (HP5.out _ _ D6).1;have d13:=((HP5.out _ _ D6).2 13).trans C13.out;have d6:=(G6.out.cell 6 (u:=.pointer (some ⟨q.p.mb,0,none⟩)) (λ r hm _=>by rw [<-hm];rfl)).1;clear D6))
      all_goals
       go_wp2_with fail;go_meet;exact G6.out
     case rest=>
      obtain ⟨k9,-,c13,f13,-⟩:=hcut.read rfl;have hlt:=hcut.lt;have G7:=Zh_ hcut.dropRead;clear hcut HP5 HK5 hc c6 c13';go_wp2;go_end0;refine ⟨v,?_⟩;rw [Mq HRD.out HA.out,Dz HZ.out.symm];exact ⟨rfl,G7.out⟩
  ·have d1:(kd==1)=false:=by simp [k1]
   have d1':(kd !=1)=true:=by simp [k1]
   go_wp2;go_end0;refine ⟨v,?_⟩;rw [run_on HRD.out HA.out k1 k4];exact ⟨rfl,H2.out.alloc _⟩
end
section
attribute [local go_sem] Zj
variable {w w' w0 w1 w2:World} {p p':MP} {q q':RP} {x x':Yg} {m:Zl} {a b:Nat} {s s':Zh} {S:List Nat} {r r':Y1}
structure T4 (x:Yg):Prop where
 p1:1<=x.part
 p3:x.part<=3
 m:Yl x.m
 com:x.com.Inv
 read:∀ r,x.read=some r->r.Inv/\x.m.waits=true
def N7 (w:World) (q:RP) (a b:Nat) (x:Yg) (s:Zh) (e:Ending) (w':World):Prop:=
 ∃ v,e=.returned (.tuple #[.bool ((x.step s.opened v).1.part==4),.int .i64 0])/\Ql w q a b (x.step s.opened v).1 (x.step s.opened v).2 w'
theorem rstep_1 (h:Z9 w q x) (hM:Zi 137 w a b s) (ok:T4 x) (hp:x.part=1) (hlen:Zw x.c0 x.c1<=s.ws.length):Calls Tryz.prog 234 #[.pointer (some ⟨q.k,0,none⟩),.pointer (some ⟨a,0,none⟩)] w (N7 w q a b x s):=by
 have H0:=Ql.same h hM;have c5:=(H0.cell 5 (u:=.int .i64 (Zw x.c0 x.c1)) (λ _ _ _=>rfl)).1;have hlt:=H0.lt;have dl:decide ((s.ws.length:Int) < Zw x.c0 x.c1)=false:=decide_eq_false (by omega);have H:=Zh_ H0;have hM:=hM.drew;clear H0 h hlen;obtain ⟨p5,hp5⟩:∃ z,z=Zw x.c0 x.c1:=⟨_,rfl⟩;rw [<-hp5] at c5 dl;have HP5:=Zh_ hp5;clear hp5;go_enter func234,ntmps234;go_upto_region 1 with fail
 go_cut [16] (λ A wx=>A=.bool false/\Ql w q a b x s wx)
 case first=>
  go_region_held3 (λ wx=>wx.cell? ⟨q.k,5,none⟩=some (.int .i64 p5)) (first|exact c5|exact d5)
   (first|(go_at_call 61;refine (J5 hM).mono ?_;rintro e w2 ⟨rfl,M2,m2⟩;have G2:=Zh_ (H.out.drew.memC M2 m2);have d5:=(G2.out.cell 5 (u:=.int .i64 p5) (λ _ _ _=>by rw [HP5.out];rfl)).1))
  all_goals
   go_wp2_with fail;go_meet;exact ⟨rfl,G2.out⟩
 case rest=>
  obtain ⟨rfl,G2⟩:=hcut;clear c5 hM hlt dl;have c9:=(G2.cell 9 (u:=.int .i64 x.part) (λ _ _ _=>rfl)).1;rw [hp] at c9;have hlt:=G2.lt;have hM:=G2.memA;have G2:=Zh_ G2;have OK:=Zh_ ok;have HP:=Zh_ hp;clear ok hp H;go_wp2_with fail;refine (Ug hM).mono ?_;rintro e w3 ⟨rfl,M3,m3⟩;have G3:=G2.out.memC M3 m3;obtain ⟨u10,c10,f10⟩:=G3.stepsF;have c9:=(G3.cell 9 (u:=.int .i64 x.part) (λ _ _ _=>rfl)).1;have f9:=(G3.cell 9 (u:=.int .i64 x.part) (λ _ _ _=>rfl)).2;rw [HP.out] at c9;have c12:=(G3.cell 12 (u:=.pointer (some ⟨q.cm,0,none⟩)) (λ r _ hc=>by rw [<-hc];rfl)).1;have hlt:=G3.lt;have G6:=Zh_ (G3.setS (wrap64 (u10+1)));have G3:=Zh_ G3;clear M3 m3 hM G2;have hL:=Ws (w:=w3.setCell ⟨q.k,10,none⟩ (.int .i64 (wrap64 (u10+1)))) G6.out.memA x.com OK.out.com G6.out.comA.1;obtain ⟨v,hv⟩:∃ v:Nat,v=0:=⟨_,rfl⟩;clear hv;have hs:x.step s.opened v=({x with com:=x.com.next s.opened,part:=if x.com.over s.opened=true then 2 else 1},x.com.mem s.opened):=by unfold Yg.step;rw [HP.out];simp
  obtain ⟨z,hz⟩:∃ z,z=x.com.over s.opened:=⟨_,rfl⟩;rw [<-hz] at hL hs;clear hz;cases z
  ·have HV:=Zh_ (show (x.step s.opened v).1={x with com:=x.com.next s.opened} from by rw [hs];have:=HP.out;cases x;simp at this ⊢;exact this.symm);have HV2:=Zh_ (show (x.step s.opened v).2=x.com.mem s.opened from by rw [hs]);clear hs;go_wp2_with fail;refine hL.mono ?_;rintro e w7 ⟨rfl,M7,k7,m7⟩;have G7:=G6.out.comA.2 _ _ _ M7 k7 m7;clear c9 f9 c10 f10 c12 M7 k7 m7 hL G3 G6;have c9:=(G7.cell 9 (u:=.int .i64 x.part) (λ _ _ _=>rfl)).1;rw [HP.out] at c9;have hlt:=G7.lt;have R7:=Zh_ G7;clear G7;go_wp2;go_ret2;exact ⟨v,by rw [HV.out];show _=Ending.returned (.tuple #[.bool (x.part==4),.int .i64 0]);rw [HP.out];rfl,by rw [HV.out,HV2.out];exact R7.out⟩
  ·have HV:=Zh_ (show (x.step s.opened v).1={x with com:=x.com.next s.opened,part:=2} from by rw [hs];rfl);have HV2:=Zh_ (show (x.step s.opened v).2=x.com.mem s.opened from by rw [hs]);clear hs;go_wp2_with fail;refine hL.mono ?_;rintro e w7 ⟨rfl,M7,k7,m7⟩;have G7:=G6.out.comA.2 _ _ _ M7 k7 m7;clear c9 f9 c10 f10 c12 M7 k7 m7 hL G3 G6;have c9:=(G7.cell 9 (u:=.int .i64 x.part) (λ _ _ _=>rfl)).1;have f9:=(G7.cell 9 (u:=.int .i64 x.part) (λ _ _ _=>rfl)).2;rw [HP.out] at c9;have hlt:=G7.lt;have R7:=Zh_ (Ql.setX (x':={x with com:=x.com.next s.opened,part:=2}) G7 9 (.int .i64 2) (λ _=>rfl) rfl rfl rfl rfl);clear G7;go_wp2;go_ret2;exact ⟨v,by rw [HV.out];rfl,by rw [HV.out,HV2.out];exact R7.out⟩
theorem rstep_2 (h:Z9 w q x) (hM:Zi 137 w a b s) (ok:T4 x) (hp:x.part=2) (hlen:Zw x.c0 x.c1<=s.ws.length):Calls Tryz.prog 234 #[.pointer (some ⟨q.k,0,none⟩),.pointer (some ⟨a,0,none⟩)] w (N7 w q a b x s):=by
 have H0:=Ql.same h hM;have c5:=(H0.cell 5 (u:=.int .i64 (Zw x.c0 x.c1)) (λ _ _ _=>rfl)).1;have hlt:=H0.lt;have dl:decide ((s.ws.length:Int) < Zw x.c0 x.c1)=false:=decide_eq_false (by omega);have H:=Zh_ H0;have hM:=hM.drew;clear H0 h hlen;obtain ⟨p5,hp5⟩:∃ z,z=Zw x.c0 x.c1:=⟨_,rfl⟩;rw [<-hp5] at c5 dl;have HP5:=Zh_ hp5;clear hp5;go_enter func234,ntmps234;go_upto_region 1 with fail
 go_cut [16] (λ A wx=>A=.bool false/\Ql w q a b x s wx)
 case first=>
  go_region_held3 (λ wx=>wx.cell? ⟨q.k,5,none⟩=some (.int .i64 p5)) (first|exact c5|exact d5)
   (first|(go_at_call 61;refine (J5 hM).mono ?_;rintro e w2 ⟨rfl,M2,m2⟩;have G2:=Zh_ (H.out.drew.memC M2 m2);have d5:=(G2.out.cell 5 (u:=.int .i64 p5) (λ _ _ _=>by rw [HP5.out];rfl)).1))
  all_goals
   go_wp2_with fail;go_meet;exact ⟨rfl,G2.out⟩
 case rest=>
  obtain ⟨rfl,G2⟩:=hcut;clear c5 hM hlt dl;have c9:=(G2.cell 9 (u:=.int .i64 x.part) (λ _ _ _=>rfl)).1;rw [hp] at c9;have hlt:=G2.lt;have hM:=G2.memA;have G2:=Zh_ G2;have OK:=Zh_ ok;have HP:=Zh_ hp;clear ok hp H;go_wp2_with fail;refine (Ug hM).mono ?_;rintro e w3 ⟨rfl,M3,m3⟩;have G3:=G2.out.memC M3 m3;obtain ⟨u10,c10,f10⟩:=G3.stepsF;have c9:=(G3.cell 9 (u:=.int .i64 x.part) (λ _ _ _=>rfl)).1;have f9:=(G3.cell 9 (u:=.int .i64 x.part) (λ _ _ _=>rfl)).2;rw [HP.out] at c9;have hlt:=G3.lt;have G6:=Zh_ (G3.setS (wrap64 (u10+1)));have G3:=Zh_ G3;clear M3 m3 hM G2;go_wp2_with fail;obtain ⟨v,hv⟩:∃ v:Nat,v=0:=⟨_,rfl⟩;clear hv v;have hrun:Calls Tryz.prog 238 #[.pointer (some ⟨q.k,0,none⟩),.pointer (some ⟨a,0,none⟩)] (w3.setCell ⟨q.k,10,none⟩ (.int .i64 (wrap64 (u10+1)))) (RRun w q a b x s.opened):=by
   rcases hr:x.read with _|r
   ·exact run_none G6.out hr HP.out OK.out.m
   ·exact run_some G6.out hr (OK.out.read r hr).1 OK.out.m (OK.out.read r hr).2
  refine hrun.mono ?_;rintro e w7 ⟨v,rfl,G7⟩;clear hrun;have hs:x.step s.opened v=x.run s.opened v:=by unfold Yg.step;rw [HP.out];simp
  obtain ⟨y,hy⟩:∃ y,y=(x.run s.opened v).1:=⟨_,rfl⟩;obtain ⟨s',hs'⟩:∃ z,z=(x.run s.opened v).2:=⟨_,rfl⟩;rw [<-hy,<-hs'] at G7;have HV:=Zh_ (show (x.step s.opened v).1=y from by rw [hs,hy]);have HV2:=Zh_ (show (x.step s.opened v).2=s' from by rw [hs,hs']);clear hs hy hs';have hlt:=G7.lt;clear c9 f9 c10 f10 G6 G3;have c9:=(G7.cell 9 (u:=.int .i64 y.part) (λ _ _ _=>rfl)).1;have R7:=Zh_ G7;clear G7;go_wp2;go_ret2;exact ⟨v,by rw [HV.out];rfl,by rw [HV.out,HV2.out];exact R7.out⟩
theorem rstep_3 (h:Z9 w q x) (hM:Zi 137 w a b s) (ok:T4 x) (hp:x.part=3) (hlen:Zw x.c0 x.c1<=s.ws.length):Calls Tryz.prog 234 #[.pointer (some ⟨q.k,0,none⟩),.pointer (some ⟨a,0,none⟩)] w (N7 w q a b x s):=by
 have H0:=Ql.same h hM;have c5:=(H0.cell 5 (u:=.int .i64 (Zw x.c0 x.c1)) (λ _ _ _=>rfl)).1;have hlt:=H0.lt;have dl:decide ((s.ws.length:Int) < Zw x.c0 x.c1)=false:=decide_eq_false (by omega);have H:=Zh_ H0;have hM:=hM.drew;clear H0 h hlen;obtain ⟨p5,hp5⟩:∃ z,z=Zw x.c0 x.c1:=⟨_,rfl⟩;rw [<-hp5] at c5 dl;have HP5:=Zh_ hp5;clear hp5;go_enter func234,ntmps234;go_upto_region 1 with fail
 go_cut [16] (λ A wx=>A=.bool false/\Ql w q a b x s wx)
 case first=>
  go_region_held3 (λ wx=>wx.cell? ⟨q.k,5,none⟩=some (.int .i64 p5)) (first|exact c5|exact d5)
   (first|(go_at_call 61;refine (J5 hM).mono ?_;rintro e w2 ⟨rfl,M2,m2⟩;have G2:=Zh_ (H.out.drew.memC M2 m2);have d5:=(G2.out.cell 5 (u:=.int .i64 p5) (λ _ _ _=>by rw [HP5.out];rfl)).1))
  all_goals
   go_wp2_with fail;go_meet;exact ⟨rfl,G2.out⟩
 case rest=>
  obtain ⟨rfl,G2⟩:=hcut;clear c5 hM hlt dl;have c9:=(G2.cell 9 (u:=.int .i64 x.part) (λ _ _ _=>rfl)).1;rw [hp] at c9;have hlt:=G2.lt;have hM:=G2.memA;have G2:=Zh_ G2;have OK:=Zh_ ok;have HP:=Zh_ hp;clear ok hp H;go_wp2_with fail;refine (Ug hM).mono ?_;rintro e w3 ⟨rfl,M3,m3⟩;have G3:=G2.out.memC M3 m3;obtain ⟨u10,c10,f10⟩:=G3.stepsF;have c9:=(G3.cell 9 (u:=.int .i64 x.part) (λ _ _ _=>rfl)).1;have f9:=(G3.cell 9 (u:=.int .i64 x.part) (λ _ _ _=>rfl)).2;rw [HP.out] at c9;have c0:=(G3.cell 0 (u:=.int .i64 0) (λ _ _ _=>rfl)).1;have c1:=(G3.cell 1 (u:=.int .i64 1) (λ _ _ _=>rfl)).1;have c2:=(G3.cell 2 (u:=.int .i64 2) (λ _ _ _=>rfl)).1;have c3:=(G3.cell 3 (u:=.int .i64 3) (λ _ _ _=>rfl)).1;have c4:=(G3.cell 4 (u:=.int .i64 (Z4 x.c1)) (λ _ _ _=>rfl)).1;have c5:=(G3.cell 5 (u:=.int .i64 (Zw x.c0 x.c1)) (λ _ _ _=>rfl)).1;have c11:=(G3.cell 11 (u:=.int .i64 x.thread) (λ _ _ _=>rfl)).1;have hlt:=G3.lt;have G6:=Zh_ (G3.setS (wrap64 (u10+1)));have G3:=Zh_ G3;clear M3 m3 hM G2;obtain ⟨v,hv⟩:∃ v:Nat,v=0:=⟨_,rfl⟩;clear hv;have hs:x.step s.opened v=({x with part:=4},s.opened.leave 3 x.thread):=by unfold Yg.step;rw [HP.out];simp
  have HV:=Zh_ (show (x.step s.opened v).1={x with part:=4} from by rw [hs]);have HV2:=Zh_ (show (x.step s.opened v).2=s.opened.leave 3 x.thread from by rw [hs]);clear hs;go_upto_region 15 with fail;clear c0 c1 c2 c3 c4 c5 c11 c9 f9 c10 f10 hlt G3;generalize w3.setCell ⟨q.k,10,none⟩ (.int .i64 (wrap64 (u10+1)))=w4 at *
  have c0:=(G6.out.cell 0 (u:=.int .i64 0) (λ _ _ _=>rfl)).1;have c1:=(G6.out.cell 1 (u:=.int .i64 1) (λ _ _ _=>rfl)).1;have c2:=(G6.out.cell 2 (u:=.int .i64 2) (λ _ _ _=>rfl)).1;have c3:=(G6.out.cell 3 (u:=.int .i64 3) (λ _ _ _=>rfl)).1;have c4:=(G6.out.cell 4 (u:=.int .i64 (Z4 x.c1)) (λ _ _ _=>rfl)).1;have c5:=(G6.out.cell 5 (u:=.int .i64 (Zw x.c0 x.c1)) (λ _ _ _=>rfl)).1;have c11:=(G6.out.cell 11 (u:=.int .i64 x.thread) (λ _ _ _=>rfl)).1;have hlt:=G6.out.lt;have hL:=leave_c G6.out.memA.drew 0 1 2 3 (Z4 x.c1) (Zw x.c0 x.c1) x.thread
  go_cut [72] (λ _ wx=>Ql w q a b x (s.opened.leave 3 x.thread) wx)
  case first=>
   go_region_held3 (λ wx=>wx.cell? ⟨q.k,0,none⟩=some (.int .i64 0)/\wx.cell? ⟨q.k,1,none⟩=some (.int .i64 1)/\wx.cell? ⟨q.k,2,none⟩=some (.int .i64 2)/\wx.cell? ⟨q.k,3,none⟩=some (.int .i64 3)/\wx.cell? ⟨q.k,4,none⟩=some (.int .i64 (Z4 x.c1))/\wx.cell? ⟨q.k,5,none⟩=some (.int .i64 (Zw x.c0 x.c1))/\wx.cell? ⟨q.k,11,none⟩=some (.int .i64 x.thread)) (first|exact ⟨c0,c1,c2,c3,c4,c5,c11⟩|exact ⟨d0,d1,d2,d3,d4,d5,d11⟩)
    (first|(go_at_call 239;refine hL.mono ?_;rintro e w7 ⟨rfl,M7,m7⟩;have G7:=Zh_ (G6.out.drew.memC M7 m7);have d0:=(G7.out.cell 0 (u:=.int .i64 0) (λ _ _ _=>rfl)).1;have d1:=(G7.out.cell 1 (u:=.int .i64 1) (λ _ _ _=>rfl)).1;have d2:=(G7.out.cell 2 (u:=.int .i64 2) (λ _ _ _=>rfl)).1;have d3:=(G7.out.cell 3 (u:=.int .i64 3) (λ _ _ _=>rfl)).1;have d4:=(G7.out.cell 4 (u:=.int .i64 (Z4 x.c1)) (λ _ _ _=>rfl)).1;have d5:=(G7.out.cell 5 (u:=.int .i64 (Zw x.c0 x.c1)) (λ _ _ _=>rfl)).1;have d11:=(G7.out.cell 11 (u:=.int .i64 x.thread) (λ _ _ _=>rfl)).1))
   all_goals
    go_wp2_with fail;go_meet;exact G7.out
  case rest=>
   clear c0 c1 c2 c3 c4 c5 c11 hlt hL G6;have G7:=hcut;clear hcut;have c9:=(G7.cell 9 (u:=.int .i64 x.part) (λ _ _ _=>rfl)).1;have f9:=(G7.cell 9 (u:=.int .i64 x.part) (λ _ _ _=>rfl)).2;rw [HP.out] at c9;have hlt:=G7.lt;have R7:=Zh_ (Ql.setX (x':={x with part:=4}) G7 9 (.int .i64 4) (λ _=>rfl) rfl rfl rfl rfl);clear G7;go_wp2;go_ret2;exact ⟨v,by rw [HV.out];rfl,by rw [HV.out,HV2.out];exact R7.out⟩
theorem Ah (h:Z9 w q x) (hM:Zi 137 w a b s) (ok:T4 x) (hlen:Zw x.c0 x.c1<=s.ws.length):Calls Tryz.prog 234 #[.pointer (some ⟨q.k,0,none⟩),.pointer (some ⟨a,0,none⟩)] w (N7 w q a b x s):=by
 have hh:x.part=1\/x.part=2\/x.part=3:=by have:=ok.p1;have:=ok.p3;omega
 rcases hh with hp|hp|hp
 ·exact rstep_1 h hM ok hp hlen
 ·exact rstep_2 h hM ok hp hlen
 ·exact rstep_3 h hM ok hp hlen
end
end Go.Proofs.YtkhonmhnchdpkaaGreat
