/- A part of the proof; no condition. -/
import Derived.Test.YtkhonmhnchdpkaaGreatS34
set_option maxRecDepth 100000
set_option maxHeartbeats 40000000
namespace Go.Proofs.YtkhonmhnchdpkaaGreat
open Go.RowKit _root_.Go.Proofs.Tryz
section
variable {w0 w w' w1:World} {lab lab' lab1:Nat→Nat} {P P':EP} {s s' r:Zr} {t i:Nat} {l:List Int}
theorem Hk (s:Zr) (t v:Nat):(s.step t v).steps≤s.steps+1∧s.steps≤(s.step t v).steps:=by
 have hr:(s.ready t).steps=s.steps+1:=by
  unfold Zr.ready
  split <;> rfl
 have hf:((s.ready t).fire t v).steps=(s.ready t).steps:=by
  unfold Zr.fire
  split
  ·rfl
  ·split
   ·split <;> rfl
   ·rfl
 unfold Zr.step
 split
 ·omega
 ·rw [hf,hr];omega
theorem V6.snoc {ts:List Nat} (h:V6 s ts r) (t v:Nat):V6 s (ts++[t]) (r.step t v):=by
 induction h with
 |nil s=>exact .cons v (.nil _)
 |cons u _ ih=>exact .cons u ih
theorem V6.ok {ts:List Nat} (h:V6 s ts r) (k:Ys s) (ht:∀ t∈ts,t < s.ths.length):Ys r∧r.ths.length=s.ths.length:=by
 induction h with
 |nil s=>exact ⟨k,rfl⟩
 |@cons s r t l v h ih=>
  have q:=k.step (ht t (by simp)) v
  have:=ih q.1 (fun u hu=>by rw [q.2];exact ht u (by simp [hu]))
  exact ⟨this.1,this.2.trans q.2⟩
theorem V6.steps {ts:List Nat} (h:V6 s ts r):r.steps≤s.steps+ts.length:=by
 induction h with
 |nil s=>simp
 |@cons s r t l v h ih=>
  have:=(Hk s t v).1
  simp
  omega
theorem V6.trans {ts us:List Nat} {q:Zr} (h:V6 s ts r) (k:V6 r us q):V6 s (ts++us) q:=by
 induction h with
 |nil s=>exact k
 |cons v _ ih=>exact .cons v (ih k)
def Q4 (n:Nat) (l:List Int):List Nat:=l.map fun x=>(Vr n x).toNat
theorem Mi {n:Nat} (hn:1≤n) (l:List Int):∀ t∈Q4 n l,t < n:=by
 intro t ht
 obtain ⟨x,_,rfl⟩:=List.mem_map.1 ht
 have:=Pd (n:=n) (by omega) x
 omega
theorem run_c {v:Value} (h:Yv w0 w lab P s) (k:Ys s) (hv:Pw w v l) (hl:l.length≤65536) (hs:s.steps+l.length < 1000000000):
  Calls Tryz.prog 9 #[Xr P.x,v] w fun e w'=>∃ n s',e=.returned (.tuple #[.int .i64 n,.int .i64 0])∧V6 s (Q4 s.ths.length l) s'∧Uo w0 w lab P s' w':=by
 obtain ⟨tg,tc,hvt,_,_,_⟩:=h.row
 have x13:=(h.xc 13 (u:=P.vt) rfl).1
 rw [hvt] at x13
 have lx:=h.xlt
 have F:=fold_c hv hl (n:=s.ths.length) (by have:=h.n1;omega) (by have:=h.n8;omega)
 obtain ⟨nt,hnt⟩:∃ z,z=s.ths.length:=⟨_,rfl⟩
 rw [←hnt] at x13 F ⊢
 obtain ⟨px,hpx⟩:∃ z,z=P.x:=⟨_,rfl⟩
 rw [←hpx] at x13 lx
 unfold Xr
 rw [←hpx]
 have hv':=hv
 obtain ⟨av,cv,rfl,_⟩:=hv'
 have d1:decide ((65536:Int) < l.length)=false:=decide_eq_false (by omega)
 have H:=Zh_ h
 have HK:=Zh_ k
 have HS:=Zh_ hs
 have HL:=Zh_ hl
 have HNT:=Zh_ hnt
 have HPX:=Zh_ hpx
 obtain ⟨len,hlen⟩:∃ z,z=l.length:=⟨_,rfl⟩
 rw [←hlen] at d1 F ⊢
 have HLEN:=Zh_ hlen
 clear h k hv hs hl hvt hnt hpx hlen
 go_enter func9,ntmps9
 go_wp2_with fail
 refine F.mono ?_;rintro e w1 ⟨cap,rfl,hc,hsz,m1⟩
 obtain ⟨b,hb⟩:∃ z,z=w.heap.size:=⟨_,rfl⟩
 rw [←hb] at hc hsz ⊢
 obtain ⟨lab1,hlab⟩:∃ z,z=Ff lab w.heap.size 0:=⟨_,rfl⟩
 have h1:=Zh_ (H.out.quiet (lab':=lab1) m1 (by rw [hlab];exact Ut 0))
 have f1:=Zh_ (Kh.quiet (lab:=lab) (lab':=lab1) m1 (by rw [hlab];exact Ut 0))
 have hb0:lab1 b=0:=by rw [hlab];exact J7 (by omega)
 have HB0:=Zh_ hb0
 clear hb0 hlab hb m1 F x13 lx
 go_wp2_with fail
 go_loopw [31,8] (fun i c wr=>∃ k n:Nat,k≤len∧n≤k∧i=.int .i64 k∧c=.int .i64 n∧∃ s',V6 s ((Q4 nt l).take k) s'∧Uo w0 w1 lab1 P s' wr) (fun i c _=>len - (intOf i).toNat)
 case atStart=>exact ⟨0,0,by omega,by omega,rfl,rfl,s,.nil s,Uo.refl h1.out⟩
 case round=>
  obtain ⟨k,n,hk,hn,rfl,rfl,s',hr,lab2,P2,h2,q2,f2⟩:=hrel
  have hl65:len≤65536:=by rw [HLEN.out];exact HL.out
  have hlen:=HLEN.out
  by_cases hlt:k < len
  ·have d4:decide ((k:Int) < len)=true:=decide_eq_true (by omega)
   have cb:wr.cell? ⟨b,k,none⟩=some (.int .i64 (Vr nt (l.getD k 0))):=by
    have:=f2.blk b hsz HB0.out
    exact (World.cell?_of_block (w:=w1) (a:=⟨b,k,none⟩) this).trans (hc k (by omega))
   have hbr:b < wr.heap.size:=Nat.lt_of_lt_of_le hsz f2.size
   have hn1:1≤nt:=by rw [HNT.out];exact H.out.n1
   have ff:=Pd (n:=nt) (by omega) (l.getD k 0)
   obtain ⟨t,ht⟩:∃ t:Nat,(t:Int)=Vr nt (l.getD k 0):=⟨(Vr nt (l.getD k 0)).toNat,by omega⟩
   rw [←ht] at cb ff
   have hmem:∀ u∈(Q4 nt l).take k,u < s.ths.length:=fun u hu=>by rw [←HNT.out];exact Mi hn1 l u (List.mem_of_mem_take hu)
   obtain ⟨kr,hlr⟩:=hr.ok HK.out hmem
   have hst:=hr.steps
   have hfl:(Q4 nt l).length=l.length:=by unfold Q4;simp
   have C:=step24_c h2 kr (t:=t) (by rw [hlr,←HNT.out];omega) (by have:=HS.out;rw [List.length_take] at hst;omega)
   unfold Xr at C
   rw [q2.x,←HPX.out] at C
   have htk:(Q4 nt l).take (k+1)=(Q4 nt l).take k++[t]:=by
    rw [List.take_succ_eq_append_getElem (by rw [hfl];omega)]
    congr 2
    unfold Q4
    simp only [List.getElem_map]
    rw [List.getD_eq_getElem?_getD,List.getElem?_eq_getElem (by omega)] at ht
    simp at ht
    omega
   have HTK:=Zh_ htk
   have HR:=Zh_ hr
   have H2:=Zh_ h2
   have Q2:=Zh_ q2
   have F2:=Zh_ f2
   obtain ⟨did,hdid⟩:∃ z,z=!(s'.th t).fin:=⟨_,rfl⟩
   rw [←hdid] at C
   clear hdid htk hr h2 q2 f2 hmem kr hlr hst hfl ff hn1 ht hlen
   go_wp2_with fail
   refine C.mono ?_;rintro e w3 ⟨rfl,v,W⟩
   obtain ⟨lab4,P4,h4,q4,f4⟩:=W
   have W2:=Zh_ (show Uo w0 w1 lab1 P (s'.step t v) w3 from ⟨lab4,P4,h4,Q2.out.trans q4,F2.out.trans f4⟩)
   have R2:=Zh_ (show V6 s ((Q4 nt l).take (k+1)) (s'.step t v) by rw [HTK.out];exact HR.out.snoc t v)
   clear h4 q4 f4
   cases did with
   |false=>
    go_wp2
    go_roundw
    case rel=>exact ⟨k+1,n,by omega,by omega,by go_num,rfl,_,R2.out,W2.out⟩
    case measure=>
     simp [intOf]
     omega
   |true=>
    go_wp2
    go_roundw
    case rel=>exact ⟨k+1,n+1,by omega,by omega,by go_num,by go_num,_,R2.out,W2.out⟩
    case measure=>
     simp [intOf]
     omega
  ·have d4:decide ((k:Int) < len)=false:=decide_eq_false (by omega)
   obtain rfl:k=len:=by omega
   have R2:=Zh_ (show V6 s (Q4 nt l) s' by
    have e:(Q4 nt l).take k=Q4 nt l:=List.take_of_length_le (by unfold Q4;simp;omega)
    rw [e] at hr
    exact hr)
   have W2:=Zh_ (show Uo w0 w lab P s' wr from ⟨lab2,P2,h2,q2,f1.out.trans f2⟩)
   clear h2 q2 f2 hr hlen
   go_wp2
   go_ret2
   refine ⟨n,s',rfl,R2.out,W2.out⟩
end
section
theorem Yg {P:Program} {ops:Array Oper} {rest:List Oper} {o:Oper} {a:Act} {w:World} {Q:Exit→Act→World→Prop} (hgd:o.guard=none)
  (h:Jt P (fun v w'=>wpList P ops Q rest (a.put o.dst v) w') ((execOp a.eval o).run P w)):wpList P ops Q (o :: rest) a w:=
 wpList_plain hgd fun _ hK=>by
  unfold Oper.wp
  revert h
  generalize (execOp a.eval o).run P w=r
  intro h
  cases r with
  |halt x w'=>exact h.elim
  |ok n w'=>
   cases n with
   |value v=>exact hK _ _ h
   |skip=>exact hK _ _ h
   |enter f args=>
    refine Calls.mono h (fun e w'' ⟨v,he,hv⟩=>?_)
    subst he
    exact hK _ _ hv
   |_=>exact h.elim
theorem Yx {P:Program} {ops:Array Oper} {rest:List Oper} {o:Oper} {a:Act} {w:World} {Q:Exit→Act→World→Prop} (v:Value) (hgd:o.guard=none)
  (hr:(execOp a.eval o).run P w=.ok (.value v) w) (h:wpList P ops Q rest (a.put o.dst v) w):wpList P ops Q (o :: rest) a w:=
 Yg hgd (by rw [hr];exact h)
theorem Gw {w:World} {o:Oper} {a:Act} {K:Value→World→Prop} (x:Tmp) (ho:o.op=.call {callee:=.builtin .append,args:=#[.const (.slice none 0 0),.tmp x],argTypes:=#[24,24]})
  (v:Value) (n:Nat) (xs:List Value) (hx:a.eval (.tmp x)=v) (hrow:w.ownsRow 0 51 1 v n xs) (hone:∀ u∈xs,u.oneCell'=true) (hb:n≤4096)
  (h:∀ u w',w'.ownsRow 0 51 1 u n xs→(∀ g,u.ownBlock=some g→w.heap.size≤g)→Ze [] w w'→K u w'):Jt Tryz.prog K ((execOp a.eval o).run Tryz.prog w):=by
 rcases hrow.2 with ⟨hv,h0⟩|⟨g,cap,cur,hv,-,-⟩
 ·subst h0
  have hxs:xs=[]:=List.eq_nil_of_length_eq_zero (by simpa using hrow.1)
  rw [hv] at hx
  have e:a.tmps[x]?.getD undef=.slice none 0 0:=by simpa [Act.eval] using hx
  obtain ⟨dst,op,ty,pos,after,guard⟩:=o
  simp only at ho
  subst ho
  have hK:=h (.slice none 0 0) w (by rw [hxs];exact World.ownsRow_nil _ _ _ _) (by simp [Value.ownBlock]) (Zr_ _ _)
  clear h hx
  go_simp
  exact hK
 ·rw [hv] at hx hrow
  have hcs:=hrow.cells (g:=g) rfl
  have hl:xs.length=n * 1:=hrow.1
  obtain ⟨i0,hi0,hz0,hz1,hz2⟩:=info_parts Uh
  refine Xh (.const (.slice none 0 0)) (.tmp x) 24 ho 0 51 i0 (.float .f64 0) 1 8 underlying24 hi0 hz0 hz1 hz2 rfl (by decide) (.slice none 0 0) 0 [] rfl (World.ownsRow_nil _ _ _ _) ⟨g,0,none⟩ n cap xs hx hl hcs hone (by unfold maxLen;omega) (by omega) (Nat.zero_le _) ?_
  intro v' w' h2 h3 h5
  obtain ⟨u,hu,k1,k2,k3⟩:=Qs.of (t:=51) (z:=1) (n:=n) (xs:=xs) (by simpa using h2) h3 h5
  simp only [Ending.returned.injEq] at hu
  subst hu
  exact h _ _ k1 k2 k3
theorem Gv {w:World} {o:Oper} {a:Act} {K:Value→World→Prop} (x:Tmp) (ho:o.op=.call {callee:=.builtin .append,args:=#[.const (.slice none 0 0),.tmp x],argTypes:=#[46,46]})
  (v:Value) (n:Nat) (xs:List Value) (hx:a.eval (.tmp x)=v) (hrow:w.ownsRow 0 53 2 v n xs) (hone:∀ u∈xs,u.oneCell'=true) (hb:n≤4096)
  (h:∀ u w',w'.ownsRow 0 53 2 u n xs→(∀ g,u.ownBlock=some g→w.heap.size≤g)→Ze [] w w'→K u w'):Jt Tryz.prog K ((execOp a.eval o).run Tryz.prog w):=by
 rcases hrow.2 with ⟨hv,h0⟩|⟨g,cap,cur,hv,-,-⟩
 ·subst h0
  have hxs:xs=[]:=List.eq_nil_of_length_eq_zero (by simpa using hrow.1)
  rw [hv] at hx
  have e:a.tmps[x]?.getD undef=.slice none 0 0:=by simpa [Act.eval] using hx
  obtain ⟨dst,op,ty,pos,after,guard⟩:=o
  simp only at ho
  subst ho
  have hK:=h (.slice none 0 0) w (by rw [hxs];exact World.ownsRow_nil _ _ _ _) (by simp [Value.ownBlock]) (Zr_ _ _)
  clear h hx
  go_simp
  exact hK
 ·rw [hv] at hx hrow
  have hcs:=hrow.cells (g:=g) rfl
  have hl:xs.length=n * 2:=hrow.1
  obtain ⟨i0,hi0,hz0,hz1,hz2⟩:=info_parts Pb
  refine Xh (.const (.slice none 0 0)) (.tmp x) 46 ho 0 53 i0 (.agg #[.int .i64 0,.float .f64 0]) 2 16 underlying46 hi0 hz0 hz1 hz2 rfl (by decide) (.slice none 0 0) 0 [] rfl (World.ownsRow_nil _ _ _ _) ⟨g,0,none⟩ n cap xs hx hl hcs hone (by unfold maxLen;omega) (by omega) (Nat.zero_le _) ?_
  intro v' w' h2 h3 h5
  obtain ⟨u,hu,k1,k2,k3⟩:=Qs.of (t:=53) (z:=2) (n:=n) (xs:=xs) (by simpa using h2) h3 h5
  simp only [Ending.returned.injEq] at hu
  subst hu
  exact h _ _ k1 k2 k3
end
end Go.Proofs.YtkhonmhnchdpkaaGreat
