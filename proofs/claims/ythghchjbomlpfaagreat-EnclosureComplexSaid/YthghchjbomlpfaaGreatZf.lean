/- EnclosureComplex: the product of points of two boxes lies in that of MulBox, and the value of a polynomial at a point in that of EvalBox, for all boxes without errors and polynomials of degree at most 6 whose numbers have at most 12 bytes. -/
import Derived.Below
import Derived.ChangeOld
import Derived.OpenShut
import Derived.ProofKit
import Derived.ShutString
import Derived.SizedLaws
import Derived.Test.YthghchjbomlpfaaGreatRows
import Derived.WalkKit
import Derived.Test.YthghchjbomlpfaaGreatZe
namespace Go.Proofs.YthghchjbomlpfaaGreat.Ev
set_option linter.unusedVariables false
abbrev BxT:=IvT×IvT
abbrev B2:=I2×I2
abbrev zB:BxT:=(zI,zI)
def BQ (m:Nat) (i:B2) (x:BxT):Prop:=IQ m i.1 x.1∧IQ m i.2 x.2
def bV (x:BxT):B2:=(iV x.1,iV x.2)
def chkB (b:BxT):Int:=fst2 (chkE b.1) (chkE b.2)
theorem chkB_zero {b:BxT} (h:chkB b=0):chkE b.1=0∧chkE b.2=0:=by
  unfold chkB fst2 at h
  split at h
  · exact ⟨by assumption,h⟩
  · exact absurd h (by assumption)
theorem chkB_Q {b:BxT} (h:chkB b=0):BQ 1024 (bV b) b:=⟨chkE_Q (chkB_zero h).1,chkE_Q (chkB_zero h).2⟩
theorem BQ.inj {m m':Nat} {i:B2} {x y:BxT} (h:BQ m i x) (h':BQ m' i y):x=y:=Prod.ext (h.1.inj h'.1) (h.2.inj h'.2)
theorem BQ.mono {m m':Nat} {i:B2} {x:BxT} (h:BQ m i x) (hm:m≤m'):BQ m' i x:=⟨h.1.mono hm,h.2.mono hm⟩
def bAdd (i j:B2):B2:=(iAdd i.1 j.1,iAdd i.2 j.2)
def bSub (i j:B2):B2:=(iSub i.1 j.1,iSub i.2 j.2)
def bMul (i j:B2):B2:=(iSub (iMul i.1 j.1) (iMul i.2 j.2),iAdd (iMul i.1 j.2) (iMul i.2 j.1))
def bConj (i:B2):B2:=(i.1,(-i.2.2,-i.2.1))
def bRound (i:B2) (b:Nat):B2:=(iRound i.1 b,iRound i.2 b)
def bMeet (i j:B2):B2:=(iMeet i.1 j.1,iMeet i.2 j.2)
section
variable {i j:B2} {x y:BxT} {m m':Nat}
theorem bxAddQ (hx:BQ m i x) (hy:BQ m' j y) (hm:m≤4294967296) (hm':m'≤4294967296):Res (fun k=>ival_AddBox k x y) (BQ (m+m'+1) (bAdd i j)):=by
  unfold ival_AddBox ival_parts_of
  simp only [Option.bind_fun_some]
  refine Res.bind (ivAddQ hx.1 hy.1 hm hm') fun a ha=>?_
  refine Res.bind (ivAddQ hx.2 hy.2 hm hm') fun b hb=>?_
  exact Res.pure ⟨ha,hb⟩
theorem rbxAddQ (hx:BQ m i x) (hy:BQ m' j y) (hm:m≤4294967296) (hm':m'≤4294967296):Res (fun k=>galoisref19_AddBox k x y) (BQ (m+m'+1) (bAdd i j)):=by
  unfold galoisref19_AddBox
  refine Res.bind (rivAddQ hx.1 hy.1 hm hm') fun a ha=>?_
  refine Res.bind (rivAddQ hx.2 hy.2 hm hm') fun b hb=>?_
  exact Res.pure ⟨ha,hb⟩
theorem bxSubQ (hx:BQ m i x) (hy:BQ m' j y) (hm:m≤4294967296) (hm':m'≤4294967296):Res (fun k=>ival_SubBox k x y) (BQ (m+m'+1) (bSub i j)):=by
  unfold ival_SubBox ival_parts_of_v3
  simp only [Option.bind_fun_some]
  refine Res.bind (ivSubQ hx.1 hy.1 hm hm') fun a ha=>?_
  refine Res.bind (ivSubQ hx.2 hy.2 hm hm') fun b hb=>?_
  exact Res.pure ⟨ha,hb⟩
theorem rbxSubQ (hx:BQ m i x) (hy:BQ m' j y) (hm:m≤4294967296) (hm':m'≤4294967296):Res (fun k=>galoisref19_SubBox k x y) (BQ (m+m'+1) (bSub i j)):=by
  unfold galoisref19_SubBox
  refine Res.bind (rivSubQ hx.1 hy.1 hm hm') fun a ha=>?_
  refine Res.bind (rivSubQ hx.2 hy.2 hm hm') fun b hb=>?_
  exact Res.pure ⟨ha,hb⟩
theorem bxMulQ (hx:BQ m i x) (hy:BQ m' j y) (hm:m≤1073741824) (hm':m'≤1073741824):Res (fun k=>ival_MulBox k x y) (BQ (m+m'+(m+m')+1) (bMul i j)):=by
  unfold ival_MulBox
  refine Res.bind (ivMulQ hx.1 hy.1 (by omega) (by omega)) fun a ha=>?_
  refine Res.bind (ivMulQ hx.2 hy.2 (by omega) (by omega)) fun b hb=>?_
  refine Res.bind (ivSubQ ha hb (by omega) (by omega)) fun c hc=>?_
  refine Res.bind (ivMulQ hx.1 hy.2 (by omega) (by omega)) fun d hd=>?_
  refine Res.bind (ivMulQ hx.2 hy.1 (by omega) (by omega)) fun e he=>?_
  refine Res.bind (ivAddQ hd he (by omega) (by omega)) fun f hf=>?_
  exact Res.pure ⟨hc,hf⟩
theorem rbxMulQ (hx:BQ m i x) (hy:BQ m' j y) (hm:m≤1073741824) (hm':m'≤1073741824):Res (fun k=>galoisref19_MulBox k x y) (BQ (m+m'+(m+m')+1) (bMul i j)):=by
  unfold galoisref19_MulBox
  refine Res.bind (rivMulQ hx.1 hy.1 (by omega) (by omega)) fun a ha=>?_
  refine Res.bind (rivMulQ hx.2 hy.2 (by omega) (by omega)) fun b hb=>?_
  refine Res.bind (rivSubQ ha hb (by omega) (by omega)) fun c hc=>?_
  refine Res.bind (rivMulQ hx.1 hy.2 (by omega) (by omega)) fun d hd=>?_
  refine Res.bind (rivMulQ hx.2 hy.1 (by omega) (by omega)) fun e he=>?_
  refine Res.bind (rivAddQ hd he (by omega) (by omega)) fun f hf=>?_
  exact Res.pure ⟨hc,hf⟩
theorem bxConjQ (hx:BQ m i x):∃ y,ival_ConjugateBox x=some y∧BQ m (bConj i) y:=by
  obtain ⟨y,h1,h2⟩:=ivNegQ hx.2
  exact ⟨(x.1,y),by rw [ival_ConjugateBox,h1]; rfl,hx.1,h2⟩
theorem rbxConjQ (hx:BQ m i x):∃ y,galoisref19_ConjugateBox x=some y∧BQ m (bConj i) y:=by
  obtain ⟨x1,x2,s1,s2⟩:=hx.2
  obtain ⟨a,_,h1,h2⟩:=negQ x1
  obtain ⟨b,_,h3,h4⟩:=negQ x2
  exact ⟨(x.1,(b,a)),by rw [galoisref19_ConjugateBox,h3,Option.bind_some,h1]; rfl,hx.1,h4,h2,s2.neg,s1.neg⟩
theorem bxRoundQ (b:Nat) (hb:b≤4096) (hx:BQ m i x) (hm:m≤4294967296):Res (fun k=>ival_RoundBox k x (b:Int)) (BQ (m+1026) (bRound i b)):=by
  unfold ival_RoundBox ival_parts_of_v2 ival_RoundBox_1
  simp only [Option.bind_fun_some]
  refine Res.bind (roundQ b hb hx.1 hm) fun a ha=>?_
  refine Res.bind (roundQ b hb hx.2 hm) fun c hc=>?_
  exact Res.pure ⟨ha,hc⟩
theorem rbxRoundQ (b:Nat) (hb:b≤4096) (hx:BQ m i x) (hm:m≤4294967296):Res (fun k=>galoisref19_RoundBox k x (b:Int)) (BQ (m+1026) (bRound i b)):=by
  unfold galoisref19_RoundBox
  refine Res.bind (rroundQ b hb hx.1 hm) fun a ha=>?_
  refine Res.bind (rroundQ b hb hx.2 hm) fun c hc=>?_
  exact Res.pure ⟨ha,hc⟩
theorem bxMeetQ (hx:BQ m i x) (hy:BQ m j y) (hm:m≤8589934592):Res (fun k=>ival_MeetBox k x y) (BQ m (bMeet i j)):=by
  unfold ival_MeetBox ival_parts_of_v4
  simp only [Option.bind_fun_some]
  refine Res.bind (meetQ hx.1 hy.1 hm) fun a ha=>?_
  refine Res.bind (meetQ hx.2 hy.2 hm) fun c hc=>?_
  exact Res.pure ⟨ha,hc⟩
theorem rbxMeetQ (hx:BQ m i x) (hy:BQ m j y) (hm:m≤8589934592):Res (fun k=>galoisref19_MeetBox k x y) (BQ m (bMeet i j)):=by
  unfold galoisref19_MeetBox
  refine Res.bind (rmeetQ hx.1 hy.1 hm) fun a ha=>?_
  refine Res.bind (rmeetQ hx.2 hy.2 hm) fun c hc=>?_
  exact Res.pure ⟨ha,hc⟩
abbrev apX (i j:B2):Prop:=ap i.1 j.1∨ap i.2 j.2
theorem bxApartQ (hx:BQ m i x) (hy:BQ m j y) (h1:i.1.1≤i.1.2) (h2:i.2.1≤i.2.2) (hm:m≤8589934592):Evt (fun k=>ival_ApartBox k x y) (decide (apX i j)):=by
  unfold ival_ApartBox
  refine Evt.bind (apartQ hx.1 hy.1 h1 hm) ?_
  by_cases h:ap i.1 j.1
  · simp only [bp h]
    rw [decide_eq_true (Or.inl h)]; exact Evt.pure
  · simp only [bn h,Option.bind_fun_some]
    have e:decide (apX i j)=decide (ap i.2 j.2):=decide_eq_decide.2 ⟨fun h'=>h'.resolve_left h,Or.inr⟩
    rw [e]; exact apartQ hx.2 hy.2 h2 hm
theorem rbxApartQ (hx:BQ m i x) (hy:BQ m j y) (hm:m≤8589934592):Evt (fun k=>galoisref19_ApartBox k x y) (decide (apX i j)):=by
  unfold galoisref19_ApartBox
  refine Evt.bind (rapartQ hx.1 hy.1 hm) ?_
  by_cases h:ap i.1 j.1
  · simp only [bp h]
    rw [decide_eq_true (Or.inl h)]; exact Evt.pure
  · simp only [bn h,Option.bind_fun_some]
    have e:decide (apX i j)=decide (ap i.2 j.2):=decide_eq_decide.2 ⟨fun h'=>h'.resolve_left h,Or.inr⟩
    rw [e]; exact rapartQ hx.2 hy.2 hm
end
def bEval (vs:List Rat) (i:B2) (b:Nat):B2:=vs.foldr (fun c r=>bRound (bAdd (bMul r i) (iAround c b,iZero)) b) (iZero,iZero)
def bsz:Nat→Nat
  | 0=>1
  | s+1=>2*bsz s+5126
theorem bsz_le {s t:Nat} (h:s≤t):bsz s≤bsz t:=by
  induction h with
  | refl=>exact Nat.le_refl _
  | step _ ih=>show _≤2*_+5126; omega
section
variable {i:B2} {x:BxT}
theorem bevalQ (l:List RT) (vs:List Rat) (hv:LQ 1024 vs l) (hl:l.length≤7) (hx:BQ 1024 i x) (b:Nat) (hb:b≤4096):Res (fun k=>ival_EvalBox k l x (b:Int)) (BQ (bsz l.length) (bEval vs i b)):=by
  have lim:∀ s,s≤7→bsz s≤656256:=fun s hs=>Nat.le_trans (bsz_le hs) (by decide)
  have key:∀ (t:Nat) (r:B2) (o:BxT),t≤l.length→BQ (bsz (l.length - t)) r o→Res2 (fun k n=>ival_EvalBox.l0 k n (b:Int) ((t:Int) - 1) l x zB o) (BQ (bsz l.length) ((vs.take t).foldr (fun c r=>bRound (bAdd (bMul r i) (iAround c b,iZero)) b) r)):=by
    intro t
    induction t with
    | zero=>
      intro r o ht ho
      refine Res2.succ (g:=fun k n=>ival_EvalBox.b0 k (ival_EvalBox.l0 k n) (b:Int) (((0:Nat):Int) - 1) l x zB o) (fun _ _=>rfl) ?_
      unfold ival_EvalBox.b0
      simp only [bn (show ¬ 0≤((0:Nat):Int) - 1 by omega)]
      exact Res2.pure ho
    | succ t ih=>
      intro r o ht ho
      obtain ⟨hq,sq⟩:=hv.2 t (by omega)
      have hs:=lim (l.length - (t+1)) (by omega)
      refine Res2.succ (g:=fun k n=>ival_EvalBox.b0 k (ival_EvalBox.l0 k n) (b:Int) (((t+1:Nat):Int) - 1) l x zB o) (fun _ _=>rfl) ?_
      unfold ival_EvalBox.b0
      have e0:((t+1:Nat):Int) - 1=(t:Int):=by omega
      have c1:(0:Int)≤t∧(t:Int) < (l.length:Int):=⟨by omega,by omega⟩
      have e1:IntKind.wrap .i64 ((t:Int) - 1)=(t:Int) - 1:=wi _ (by omega) (by omega)
      simp only [e0,bp c1.1,if_pos c1,Int.toNat_natCast,e1]
      refine Res2.call (bxMulQ ho hx (by omega) (by omega)) fun a ha=>?_
      refine Res2.call (aroundQ b hb hq sq (by omega)) fun c hc=>?_
      have hreal:Res (fun k=>ival_Real k c) (BQ (1024+1026) (iAround (vs.getD t 0) b,iZero)):=by
        unfold ival_Real
        refine Res.bind ivZeroQ fun z hz=>?_
        exact Res.pure ⟨hc,hz.mono (by omega)⟩
      refine Res2.call hreal fun d hd=>?_
      refine Res2.call (bxAddQ ha hd (by omega) (by omega)) fun e he=>?_
      refine Res2.call (bxRoundQ b hb he (by omega)) fun f hf=>?_
      rw [take_snoc vs t (by rw [hv.1]; omega),List.foldr_append]
      refine ih _ _ (by omega) (hf.mono ?_)
      have e2:l.length - t=(l.length - (t+1))+1:=by omega
      rw [e2]; show _≤2*bsz (l.length - (t+1))+5126
      omega
  unfold ival_EvalBox ival_EvalBox.top ival_Real
  refine Res.bind ivZeroQ fun z hz=>?_
  have h0:Res (fun k=>(ival_Zero k).bind fun t1=>some (z,t1)) (BQ 1 (iZero,iZero)):=by
    refine Res.bind ivZeroQ fun w hw=>?_
    exact Res.pure ⟨hz,hw⟩
  refine Res.bind h0 fun w hw=>?_
  rw [wi _ (by omega) (by omega)]
  have:=(key l.length _ w (Nat.le_refl _) (hw.mono (by rw [Nat.sub_self]; exact Nat.le_refl _))).diag
  rw [List.take_of_length_le (by rw [hv.1]; omega)] at this
  exact this
theorem rbevalQ (l:List RT) (vs:List Rat) (hv:LQ 1024 vs l) (hl:l.length≤7) (hx:BQ 1024 i x) (b:Nat) (hb:b≤4096):Res (fun k=>galoisref19_EvalBox k l x (b:Int)) (BQ (bsz l.length) (bEval vs i b)):=by
  have lim:∀ s,s≤7→bsz s≤656256:=fun s hs=>Nat.le_trans (bsz_le hs) (by decide)
  have key:∀ (t:Nat) (r:B2) (o:BxT),t≤l.length→BQ (bsz (l.length - t)) r o→Res2 (fun k n=>galoisref19_EvalBox.l0 k n (b:Int) ((t:Int) - 1) l x zB o) (BQ (bsz l.length) ((vs.take t).foldr (fun c r=>bRound (bAdd (bMul r i) (iAround c b,iZero)) b) r)):=by
    intro t
    induction t with
    | zero=>
      intro r o ht ho
      refine Res2.succ (g:=fun k n=>galoisref19_EvalBox.b0 k (galoisref19_EvalBox.l0 k n) (b:Int) (((0:Nat):Int) - 1) l x zB o) (fun _ _=>rfl) ?_
      unfold galoisref19_EvalBox.b0
      simp only [bn (show ¬ 0≤((0:Nat):Int) - 1 by omega)]
      exact Res2.pure ho
    | succ t ih=>
      intro r o ht ho
      obtain ⟨hq,sq⟩:=hv.2 t (by omega)
      have hs:=lim (l.length - (t+1)) (by omega)
      refine Res2.succ (g:=fun k n=>galoisref19_EvalBox.b0 k (galoisref19_EvalBox.l0 k n) (b:Int) (((t+1:Nat):Int) - 1) l x zB o) (fun _ _=>rfl) ?_
      unfold galoisref19_EvalBox.b0
      have e0:((t+1:Nat):Int) - 1=(t:Int):=by omega
      have c1:(0:Int)≤t∧(t:Int) < (l.length:Int):=⟨by omega,by omega⟩
      have e1:IntKind.wrap .i64 ((t:Int) - 1)=(t:Int) - 1:=wi _ (by omega) (by omega)
      simp only [e0,bp c1.1,if_pos c1,Int.toNat_natCast,e1]
      refine Res2.call (rbxMulQ ho hx (by omega) (by omega)) fun a ha=>?_
      refine Res2.call (raroundQ b hb hq sq (by omega)) fun c hc=>?_
      refine Res2.call rivZeroQ fun z hz=>?_
      refine Res2.call (rbxAddQ ha (show BQ (1024+1026) (iAround (vs.getD t 0) b,iZero) (c,z) from ⟨hc,hz.mono (by omega)⟩) (by omega) (by omega)) fun e he=>?_
      refine Res2.call (rbxRoundQ b hb he (by omega)) fun f hf=>?_
      rw [take_snoc vs t (by rw [hv.1]; omega),List.foldr_append]
      refine ih _ _ (by omega) (hf.mono ?_)
      have e2:l.length - t=(l.length - (t+1))+1:=by omega
      rw [e2]; show _≤2*bsz (l.length - (t+1))+5126
      omega
  unfold galoisref19_EvalBox galoisref19_EvalBox.top
  refine Res.bind rivZeroQ fun z hz=>?_
  refine Res.bind rivZeroQ fun w hw=>?_
  rw [wi _ (by omega) (by omega)]
  have:=(key l.length (iZero,iZero) (z,w) (Nat.le_refl _) (by rw [Nat.sub_self]; exact ⟨hz,hw⟩)).diag
  rw [List.take_of_length_le (by rw [hv.1]; omega)] at this
  exact this
end
def largeB (x:BxT):Bool:=bif largeI x.1 then true else largeI x.2
def outB (x:BxT):BxT×Int:=bif largeB x then (zB,4) else (x,0)
theorem box_eq (x:BxT):enclosure_box x=some (outB x):=by
  unfold enclosure_box outB ival_LargeBox largeB
  simp only [ivLarge_eq,Option.bind_some]
  cases largeI x.1
  · cases largeI x.2 <;> rfl
  · rfl
theorem rLargeBox_ok (x:BxT):Evt (fun k=>galoisref19_LargeBox k x) (bif largeB x then 4 else 0):=by
  unfold galoisref19_LargeBox
  simp only [rLarge_eq,Option.bind_some,Option.bind_fun_some]
  have:=rFirst_ok [bif largeI x.1 then 4 else 0,bif largeI x.2 then 4 else 0] (by show 2≤_; omega)
  unfold largeB
  cases h1:largeI x.1 <;> cases h2:largeI x.2 <;> rw [h1,h2] at this <;> exact this
def OutB (e:Int) (Q:BxT→Prop) (r:BxT×Int):Prop:=(e≠0∧r=(zB,e))∨(e=0∧∃ v,Q v∧r=outB v)
theorem outB_core {e:Int} {Q:BxT→Prop} {f:Nat→Option BxT} (hf:e=0→Res f Q) :
    Res (fun k=>bif !decide (e=0) then (some (zB,e)) else ((f k).bind fun t=>(enclosure_box t).bind fun p=>some (p.1,p.2))) (OutB e Q):=by
  by_cases h:e=0
  · simp only [bnp h]
    refine Res.bind (hf h) fun v hv=>?_
    exact Res.of_some (r:=outB v) (by rw [box_eq]; rfl) (.inr ⟨h,v,hv,rfl⟩)
  · simp only [bnn h]
    exact Res.pure (.inl ⟨h,rfl⟩)
abbrev tyX:Ty:=.pair Y2 Y2
theorem lawB_core {e:Int} {errs:List Int} {want:Nat→Option BxT} {j0 j1:Nat→Bool→Option Bool} {m m':Nat} {i:B2} {a0:BxT} {a1:Int} (h0:∀ b,Evt (fun k=>j0 k b) b) (h1:∀ b,Evt (fun k=>j1 k b) b)
    (hl:errs.length≤1099511627776) (he:fstL errs=e) (hw:e=0→Res want (BQ m i)) (hr:OutB e (BQ m' i) (a0,a1)) :
    Evt (fun k=>(galoisref19_First k errs).bind fun t1=>bif !decide (t1=0) then (bif decide (a1=t1) then (j0 k (Ty.eqb tyX a0 zB)) else (j0 k false)) else ((want k).bind fun t2=>(galoisref19_LargeBox k t2).bind fun t3=>bif !decide (t3=0) then (bif decide (a1=t3) then (j1 k (Ty.eqb tyX a0 zB)) else (j1 k false)) else (bif decide (a1=0) then (some (Ty.eqb tyX a0 t2)) else (some false)))) true:=by
  refine Evt.bind (rFirst_ok errs hl) ?_
  rw [he]
  rcases hr with ⟨h,hr⟩ | ⟨h,v,hv,hr⟩
  · obtain ⟨rfl,rfl⟩:=Prod.mk.inj hr
    simp only [bnn h,decide_true,cond_true,eqb_self (t:=tyX) rfl]
    exact h0 true
  · simp only [bnp h]
    obtain ⟨w,hw1,hw2⟩:=hw h
    obtain rfl:=hw2.inj hv
    refine Evt.bind hw1 ?_
    refine Evt.bind (rLargeBox_ok w) ?_
    unfold outB at hr
    cases hb:largeB w with
    | true=>
      rw [hb] at hr
      obtain ⟨rfl,rfl⟩:=Prod.mk.inj hr
      simp only [cond_true,eqb_self (t:=tyX) rfl]
      exact h1 true
    | false=>
      rw [hb] at hr
      obtain ⟨rfl,rfl⟩:=Prod.mk.inj hr
      simp only [cond_false,decide_true,Bool.not_true,cond_true,eqb_self (t:=tyX) rfl]
      exact Evt.pure
theorem fewBox_eq (x:BxT):∃ b,galoisref19_FewBox x=some b:=by
  unfold galoisref19_FewBox
  obtain ⟨b,hb⟩:=few_eq x.1
  obtain ⟨c,hc⟩:=few_eq x.2
  simp only [hb,hc,Option.bind_some]
  cases b <;> exact ⟨_,rfl⟩
end Go.Proofs.YthghchjbomlpfaaGreat.Ev

namespace Go.Proofs.YthghchjbomlpfaaGreat.Ev
set_option linter.unusedVariables false
abbrev mem (i:I2) (x:Rat):Prop:=i.1≤x∧x≤i.2
section
variable {i j i' j':I2} {x y p q:Rat}
theorem rneg_le {a b:Rat} (h:a≤b):-b≤-a:=Rat.neg_le_neg h
theorem radd_le {a b c d:Rat} (h:a≤b) (h':c≤d):a+c≤b+d:=Rat.le_trans (Rat.add_le_add_right.2 h) (Rat.add_le_add_left.2 h')
theorem mem_add (hx:mem i x) (hy:mem j y):mem (iAdd i j) (x+y):=⟨radd_le hx.1 hy.1,radd_le hx.2 hy.2⟩
theorem mem_sub (hx:mem i x) (hy:mem j y):mem (iSub i j) (x - y):=by
  unfold iSub mem
  rw [Rat.sub_eq_add_neg,Rat.sub_eq_add_neg,Rat.sub_eq_add_neg]
  exact ⟨radd_le hx.1 (rneg_le hy.2),radd_le hx.2 (rneg_le hy.1)⟩
theorem lin {a b:Rat} (h1:a≤x) (h2:x≤b) (y:Rat):(a*y≤x*y∧x*y≤b*y)∨(b*y≤x*y∧x*y≤a*y):=by
  rcases Rat.le_total (a:=0) (b:=y) with h | h
  · exact .inl ⟨Rat.mul_le_mul_of_nonneg_right h1 h,Rat.mul_le_mul_of_nonneg_right h2 h⟩
  · have h':0≤-y:=by have:=rneg_le h; simpa using this
    have e:∀ z:Rat,z*y=-(z*-y):=fun z=>by rw [Rat.mul_neg,Rat.neg_neg]
    have g1:=Rat.mul_le_mul_of_nonneg_right h1 h'
    have g2:=Rat.mul_le_mul_of_nonneg_right h2 h'
    rw [e a,e x,e b]
    exact .inr ⟨rneg_le g2,rneg_le g1⟩
theorem hull_le (o:I2) (z:Rat):(iHull o (z,z)).1≤o.1∧o.2≤(iHull o (z,z)).2∧(iHull o (z,z)).1≤z∧z≤(iHull o (z,z)).2:=by
  unfold iHull
  refine ⟨?_,?_,?_,?_⟩ <;> simp only <;> split <;> (try exact Rat.le_refl) <;> (try exact Rat.le_of_lt (by assumption)) <;> exact Rat.not_lt.1 (by assumption)
theorem hull_end (o:I2) (z:Rat):((iHull o (z,z)).1=o.1∨(iHull o (z,z)).1=z)∧((iHull o (z,z)).2=o.2∨(iHull o (z,z)).2=z):=by
  unfold iHull
  refine ⟨?_,?_⟩ <;> simp only <;> split <;> simp
theorem fold_le:∀ (l:List Rat) (o:I2),(l.foldl (fun o x=>iHull o (x,x)) o).1≤o.1∧o.2≤(l.foldl (fun o x=>iHull o (x,x)) o).2∧∀ z∈l,mem (l.foldl (fun o x=>iHull o (x,x)) o) z
  | [],o=>⟨Rat.le_refl,Rat.le_refl,fun z hz=>by simp at hz⟩
  | a :: l,o=>by
    obtain ⟨h1,h2,h3,h4⟩:=hull_le o a
    obtain ⟨g1,g2,g3⟩:=fold_le l (iHull o (a,a))
    rw [List.foldl_cons]
    refine ⟨Rat.le_trans g1 h1,Rat.le_trans h2 g2,fun z hz=>?_⟩
    rcases List.mem_cons.1 hz with rfl | hz
    · exact ⟨Rat.le_trans g1 h3,Rat.le_trans h4 g2⟩
    · exact g3 z hz
theorem fold_end:∀ (l:List Rat) (o:I2),((l.foldl (fun o x=>iHull o (x,x)) o).1=o.1∨(l.foldl (fun o x=>iHull o (x,x)) o).1∈l)∧((l.foldl (fun o x=>iHull o (x,x)) o).2=o.2∨(l.foldl (fun o x=>iHull o (x,x)) o).2∈l)
  | [],o=>⟨.inl rfl,.inl rfl⟩
  | a :: l,o=>by
    obtain ⟨h1,h2⟩:=hull_end o a
    obtain ⟨g1,g2⟩:=fold_end l (iHull o (a,a))
    rw [List.foldl_cons]
    constructor
    · rcases g1 with g | g
      · rw [g]; rcases h1 with h | h
        · exact .inl h
        · rw [h]; exact .inr (List.mem_cons_self ..)
      · exact .inr (List.mem_cons_of_mem _ g)
    · rcases g2 with g | g
      · rw [g]; rcases h2 with h | h
        · exact .inl h
        · rw [h]; exact .inr (List.mem_cons_self ..)
      · exact .inr (List.mem_cons_of_mem _ g)
theorem span_mem {a z:Rat} {l:List Rat} (h:z∈a :: l):mem (iSpan a l) z:=by
  obtain ⟨g1,g2,g3⟩:=fold_le l (a,a)
  rcases List.mem_cons.1 h with rfl | h
  · exact ⟨g1,g2⟩
  · exact g3 z h
theorem span_end (a:Rat) (l:List Rat):(iSpan a l).1∈a :: l∧(iSpan a l).2∈a :: l:=by
  obtain ⟨g1,g2⟩:=fold_end l (a,a)
  constructor
  · rcases g1 with g | g
    · unfold iSpan; rw [g]; exact List.mem_cons_self ..
    · exact List.mem_cons_of_mem _ g
  · rcases g2 with g | g
    · unfold iSpan; rw [g]; exact List.mem_cons_self ..
    · exact List.mem_cons_of_mem _ g
theorem between {a b c:Rat} (h:(a≤b∧b≤c)∨(c≤b∧b≤a)) (ha:mem i a) (hc:mem i c):mem i b:=by
  rcases h with h | h
  · exact ⟨Rat.le_trans ha.1 h.1,Rat.le_trans h.2 hc.2⟩
  · exact ⟨Rat.le_trans hc.1 h.1,Rat.le_trans h.2 ha.2⟩
theorem mem_mul (hx:mem i x) (hy:mem j y):mem (iMul i j) (x*y):=by
  have key:∀ z,z∈[i.1*j.1,i.1*j.2,i.2*j.1,i.2*j.2]→mem (iMul i j) z:=fun z hz=>span_mem hz
  have c:∀ w:Rat,(w=i.1∨w=i.2)→mem (iMul i j) (w*y):=by
    intro w hw
    have:=lin hy.1 hy.2 w
    rw [Rat.mul_comm j.1,Rat.mul_comm y,Rat.mul_comm j.2] at this
    refine between this (key _ ?_) (key _ ?_) <;> rcases hw with rfl | rfl <;> simp
  exact between (lin hx.1 hx.2 y) (c _ (.inl rfl)) (c _ (.inr rfl))
theorem rmul_self (x:Rat):0≤x*x:=by
  rcases Rat.le_total (a:=0) (b:=x) with h | h
  · exact Rat.mul_nonneg h h
  · have h':0≤-x:=by have:=rneg_le h; simpa using this
    have:=Rat.mul_nonneg h' h'
    rwa [Rat.neg_mul,Rat.mul_neg,Rat.neg_neg] at this
theorem mem_square (hx:mem i x):mem (iSquare i) (x*x):=by
  have hk:∀ z,z∈[i.1*i.1,i.2*i.2]→mem (iSpan (i.1*i.1) [i.2*i.2]) z:=fun z hz=>span_mem hz
  have h1:=hk (i.1*i.1) (by simp)
  have h2:=hk (i.2*i.2) (by simp)
  have le:∀ {a b:Rat},0≤a→a≤b→a*a≤b*b:=fun {a b} ha hab=>
    Rat.le_trans (Rat.mul_le_mul_of_nonneg_right hab ha) (Rat.mul_le_mul_of_nonneg_left hab (Rat.le_trans ha hab))
  have sq:∀ a:Rat,(-a)*(-a)=a*a:=fun a=>by rw [Rat.neg_mul,Rat.mul_neg,Rat.neg_neg]
  have up:x*x≤(iSpan (i.1*i.1) [i.2*i.2]).2:=by
    rcases Rat.le_total (a:=0) (b:=x) with h | h
    · exact Rat.le_trans (le h hx.2) h2.2
    · have h':0≤-x:=by have:=rneg_le h; simpa using this
      have:=le h' (rneg_le hx.1)
      rw [sq,sq] at this
      exact Rat.le_trans this h1.2
  unfold iSquare
  split
  · exact ⟨rmul_self x,up⟩
  · rename_i hn
    refine ⟨?_,up⟩
    by_cases h:i.1≤0
    · have h3:i.2 < 0:=Rat.not_le.1 fun h'=>hn ⟨h,h'⟩
      have h4:0≤-i.2:=by have:=rneg_le (Rat.le_of_lt h3); simpa using this
      have:=le h4 (rneg_le hx.2)
      rw [sq,sq] at this
      exact Rat.le_trans h2.1 this
    · have h3:0 < i.1:=Rat.not_le.1 h
      exact Rat.le_trans h1.1 (le (Rat.le_of_lt h3) hx.1)
theorem two_nonneg (b:Nat):0≤two b:=Rat.le_of_lt (two_pos b)
theorem two_mul_inv (p:Rat) (b:Nat):p*two b / two b=p:=Rat.mul_div_cancel (two_ne b)
theorem inv_nonneg (b:Nat):0≤(two b)⁻¹:=Rat.le_of_lt (Rat.inv_pos.2 (two_pos b))
theorem div_mono {a c:Rat} (b:Nat) (h:a≤c):a / two b≤c / two b:=by
  rw [Rat.div_def,Rat.div_def]
  exact Rat.mul_le_mul_of_nonneg_right h (inv_nonneg b)
theorem dn_le (p:Rat) (b:Nat):dn p b≤p:=by
  have h:=div_mono b (Rat.floor_le (p*two b))
  rwa [two_mul_inv] at h
theorem dn_mono {p q:Rat} (b:Nat) (h:p≤q):dn p b≤dn q b:=
  div_mono b (Rat.intCast_le_intCast.2 (Rat.floor_monotone (Rat.mul_le_mul_of_nonneg_right h (two_nonneg b))))
theorem dn_idem (p:Rat) (b:Nat):dn (dn p b) b=dn p b:=by
  have e:dn p b*two b=((p*two b).floor:Rat):=by unfold dn; exact Rat.div_mul_cancel (two_ne b)
  rw [dn,e,Rat.floor_intCast]; rfl
theorem le_up (p:Rat) (b:Nat):p≤-(dn (-p) b):=by
  have:=rneg_le (dn_le (-p) b)
  rwa [Rat.neg_neg] at this
theorem mem_around (p:Rat) (b:Nat):mem (iAround p b) p:=⟨dn_le p b,le_up p b⟩
theorem mem_round (b:Nat) (h:mem i x):mem (iRound i b) x:=⟨Rat.le_trans (dn_le _ b) h.1,Rat.le_trans h.2 (le_up _ b)⟩
theorem round_idem (i:I2) (b:Nat):iRound (iRound i b) b=iRound i b:=by
  unfold iRound
  simp only [dn_idem,Rat.neg_neg]
abbrev sub (i j:I2):Prop:=j.1≤i.1∧i.2≤j.2
theorem sub_round (b:Nat) (h:sub i j):sub (iRound i b) (iRound j b):=⟨dn_mono b h.1,rneg_le (dn_mono b (rneg_le h.2))⟩
theorem sub_add (h:sub i j) (h':sub i' j'):sub (iAdd i i') (iAdd j j'):=⟨radd_le h.1 h'.1,radd_le h.2 h'.2⟩
theorem sub_mul (hi:i.1≤i.2) (hi':i'.1≤i'.2) (h:sub i j) (h':sub i' j'):sub (iMul i i') (iMul j j'):=by
  have key:∀ z,z∈[i.1*i'.1,i.1*i'.2,i.2*i'.1,i.2*i'.2]→mem (iMul j j') z:=by
    have a1:mem j i.1:=⟨h.1,Rat.le_trans hi h.2⟩
    have a2:mem j i.2:=⟨Rat.le_trans h.1 hi,h.2⟩
    have b1:mem j' i'.1:=⟨h'.1,Rat.le_trans hi' h'.2⟩
    have b2:mem j' i'.2:=⟨Rat.le_trans h'.1 hi',h'.2⟩
    intro z hz
    simp only [List.mem_cons,List.not_mem_nil,or_false] at hz
    rcases hz with rfl | rfl | rfl | rfl
    · exact mem_mul a1 b1
    · exact mem_mul a1 b2
    · exact mem_mul a2 b1
    · exact mem_mul a2 b2
  obtain ⟨e1,e2⟩:=span_end (i.1*i'.1) [i.1*i'.2,i.2*i'.1,i.2*i'.2]
  exact ⟨(key _ e1).1,(key _ e2).2⟩
theorem mem_le (h:mem i x):i.1≤i.2:=Rat.le_trans h.1 h.2
theorem self_mem (h:i.1≤i.2):mem i i.1:=⟨Rat.le_refl,h⟩
def rEval (vs:List Rat) (x:Rat):Rat:=vs.foldr (fun c r=>r*x+c) 0
theorem mem_eval (b:Nat) (hx:mem i x):∀ vs:List Rat,mem (iEval vs i b) (rEval vs x)
  | []=>⟨Rat.le_refl,Rat.le_refl⟩
  | c :: vs=>mem_round b (mem_add (mem_mul (mem_eval b hx vs) hx) (mem_around c b))
theorem sub_eval (b:Nat) (hi:i.1≤i.2) (h:sub i j):∀ vs:List Rat,sub (iEval vs i b) (iEval vs j b)
  | []=>⟨Rat.le_refl,Rat.le_refl⟩
  | c :: vs=>sub_round b (sub_add (sub_mul (mem_le (mem_eval b (self_mem hi) vs)) hi (sub_eval b hi h vs) h) ⟨Rat.le_refl,Rat.le_refl⟩)
def Dy (p:Rat):Prop:=∃ (n:Nat) (z:Int),p*two n=(z:Rat)
theorem two_add (m n:Nat):two (m+n)=two m*two n:=by
  unfold two
  rw [Nat.pow_add,Int.natCast_mul,Rat.intCast_mul]
theorem Dy.int (z:Int):Dy (z:Rat):=⟨0,z,by show (z:Rat)*((1:Int):Rat)=_; rw [Rat.intCast_one,Rat.mul_one]⟩
theorem Dy.neg (h:Dy p):Dy (-p):=by
  obtain ⟨n,z,h⟩:=h
  exact ⟨n,-z,by rw [Rat.neg_mul,h,Rat.intCast_neg]⟩
theorem Dy.add (h:Dy p) (h':Dy q):Dy (p+q):=by
  obtain ⟨n,z,h⟩:=h
  obtain ⟨m,w,h'⟩:=h'
  refine ⟨n+m,z*((2 ^ m:Nat):Int)+w*((2 ^ n:Nat):Int),?_⟩
  rw [two_add,Rat.intCast_add,Rat.intCast_mul,Rat.intCast_mul,← h,← h']
  show _=p*two n*two m+q*two m*two n
  grind
theorem Dy.sub (h:Dy p) (h':Dy q):Dy (p - q):=by rw [Rat.sub_eq_add_neg]; exact h.add h'.neg
theorem Dy.mul (h:Dy p) (h':Dy q):Dy (p*q):=by
  obtain ⟨n,z,h⟩:=h
  obtain ⟨m,w,h'⟩:=h'
  refine ⟨n+m,z*w,?_⟩
  rw [two_add,Rat.intCast_mul,← h,← h']
  grind
theorem Dy.dn (p:Rat) (b:Nat):Dy (dn p b):=⟨b,(p*two b).floor,Rat.div_mul_cancel (two_ne b)⟩
def DyI (i:I2):Prop:=Dy i.1∧Dy i.2
theorem DyI.add (h:DyI i) (h':DyI j):DyI (iAdd i j):=⟨h.1.add h'.1,h.2.add h'.2⟩
theorem DyI.sub (h:DyI i) (h':DyI j):DyI (iSub i j):=⟨h.1.sub h'.2,h.2.sub h'.1⟩
theorem DyI.span {a:Rat} {l:List Rat} (h:∀ z∈a :: l,Dy z):DyI (iSpan a l):=⟨h _ (span_end a l).1,h _ (span_end a l).2⟩
theorem DyI.mul (h:DyI i) (h':DyI j):DyI (iMul i j):=.span fun z hz=>by
  simp only [List.mem_cons,List.not_mem_nil,or_false] at hz
  rcases hz with rfl | rfl | rfl | rfl
  · exact h.1.mul h'.1
  · exact h.1.mul h'.2
  · exact h.2.mul h'.1
  · exact h.2.mul h'.2
theorem DyI.square (h:DyI i):DyI (iSquare i):=by
  have hs:DyI (iSpan (i.1*i.1) [i.2*i.2]):=.span fun z hz=>by
    simp only [List.mem_cons,List.not_mem_nil,or_false] at hz
    rcases hz with rfl | rfl
    · exact h.1.mul h.1
    · exact h.2.mul h.2
  unfold iSquare
  split
  · exact ⟨Dy.int 0,hs.2⟩
  · exact hs
theorem DyI.round (i:I2) (b:Nat):DyI (iRound i b):=⟨Dy.dn _ b,(Dy.dn _ b).neg⟩
theorem DyI.eval (vs:List Rat) (i:I2) (b:Nat):DyI (iEval vs i b):=by
  cases vs with
  | nil=>exact ⟨Dy.int 0,Dy.int 0⟩
  | cons c vs=>exact DyI.round _ b
def pw (m:Nat):Rat:=(((256 ^ m:Nat):Int):Rat)
def Bd (m:Nat) (p:Rat):Prop:=-(pw m) < p∧p < pw m
variable {m m':Nat}
theorem pw_pos (m:Nat):0 < pw m:=Rat.intCast_pos.2 (by have:=Nat.pow_pos (n:=m) (show 0 < 256 by omega); omega)
theorem pw_add (m n:Nat):pw (m+n)=pw m*pw n:=by
  unfold pw
  rw [Nat.pow_add,Int.natCast_mul,Rat.intCast_mul]
theorem pw_mono (h:m≤m'):pw m≤pw m':=Rat.intCast_le_intCast.2 (by have:=Nat.pow_le_pow_right (n:=256) (by omega) h; omega)
theorem pw_succ (m:Nat):pw m+pw m≤pw (m+1):=by
  unfold pw
  rw [← Rat.intCast_add]
  refine Rat.intCast_le_intCast.2 ?_
  rw [Nat.pow_succ]; omega
theorem rlt_of_lt_of_le {a b c:Rat} (h:a < b) (h':b≤c):a < c:=Rat.not_le.1 fun h2=>Rat.not_lt.2 (Rat.le_trans h' h2) h
theorem rlt_of_le_of_lt {a b c:Rat} (h:a≤b) (h':b < c):a < c:=Rat.not_le.1 fun h2=>Rat.not_lt.2 (Rat.le_trans h2 h) h'
theorem Bd.mono (h:Bd m p) (hm:m≤m'):Bd m' p:=⟨rlt_of_le_of_lt (rneg_le (pw_mono hm)) h.1,rlt_of_lt_of_le h.2 (pw_mono hm)⟩
theorem Bd.neg (h:Bd m p):Bd m (-p):=⟨Rat.neg_lt_neg h.2,by have:=Rat.neg_lt_neg h.1; rwa [Rat.neg_neg] at this⟩
theorem Bd.add (h:Bd m p) (h':Bd m q):Bd (m+1) (p+q):=by
  have:=pw_succ m
  obtain ⟨h1,h2⟩:=h
  obtain ⟨h3,h4⟩:=h'
  constructor <;> grind
theorem Bd.sub (h:Bd m p) (h':Bd m q):Bd (m+1) (p - q):=by rw [Rat.sub_eq_add_neg]; exact h.add h'.neg
theorem Bd.mul (h:Bd m p) (h':Bd m' q):Bd (m+m') (p*q):=by
  have hm:=pw_pos m
  have g1:pw m*q < pw m*pw m':=Rat.mul_lt_mul_of_pos_left h'.2 hm
  have g2:pw m*-(pw m') < pw m*q:=Rat.mul_lt_mul_of_pos_left h'.1 hm
  unfold Bd
  rw [pw_add]
  rw [Rat.mul_neg] at g2
  rcases lin (Rat.le_of_lt h.1) (Rat.le_of_lt h.2) q with ⟨a,b⟩ | ⟨a,b⟩
  · rw [Rat.neg_mul] at a
    exact ⟨rlt_of_lt_of_le (Rat.neg_lt_neg g1) a,rlt_of_le_of_lt b g1⟩
  · rw [Rat.neg_mul] at b
    refine ⟨rlt_of_lt_of_le g2 a,rlt_of_le_of_lt b ?_⟩
    have:=Rat.neg_lt_neg g2
    rwa [Rat.neg_neg] at this
theorem Bd.of_sz (h:Sz m p):Bd m p:=by
  have hd:=den_pos p
  have h1:=h.1
  have hc:((256 ^ m:Nat):Int)=256 ^ m:=Int.natCast_pow 256 m
  have e:(256:Int) ^ m*1≤256 ^ m*(p.den:Int):=Int.mul_le_mul_of_nonneg_left hd (by have:=p256_pos m; omega)
  constructor
  · rw [Rat.lt_iff]
    show (-(pw m)).num*(p.den:Int) < p.num*((-(pw m)).den:Int)
    show -((256 ^ m:Nat):Int)*(p.den:Int) < p.num*1
    rw [hc,Int.neg_mul]; omega
  · rw [Rat.lt_iff]
    show p.num*1 < ((256 ^ m:Nat):Int)*(p.den:Int)
    rw [hc]; omega
theorem floor_bounds (h:Bd m p) (b:Nat):-(((256 ^ m:Nat):Int)*((2 ^ b:Nat):Int))≤(p*two b).floor∧(p*two b).floor < ((256 ^ m:Nat):Int)*((2 ^ b:Nat):Int):=by
  have e:pw m*two b=(((((256 ^ m:Nat):Int)*((2 ^ b:Nat):Int)):Int):Rat):=by rw [Rat.intCast_mul]; rfl
  constructor
  · rw [Rat.le_floor_iff,Rat.intCast_neg,← e,← Rat.neg_mul]
    exact Rat.mul_le_mul_of_nonneg_right (Rat.le_of_lt h.1) (two_nonneg b)
  · rw [Rat.floor_lt_iff,← e]
    exact Rat.mul_lt_mul_of_pos_right h.2 (two_pos b)
theorem Bd.dn (h:Bd m p) (b:Nat):Bd (m+1) (dn p b):=by
  have h1:=(floor_bounds h b).1
  have h2:-(pw m)≤Ev.dn p b:=by
    have:=div_mono b (Rat.intCast_le_intCast.2 h1)
    rw [Rat.intCast_neg,Rat.intCast_mul] at this
    have e:-(pw m*two b) / two b=-(pw m):=by rw [← Rat.neg_mul]; exact two_mul_inv _ _
    exact e ▸ this
  have h3:=dn_le p b
  have h4:=pw_succ m
  have h5:=pw_pos m
  obtain ⟨h6,h7⟩:=h
  constructor <;> grind
theorem sz_dn' (h:Bd m p) (b:Nat):Sz (m+(b / 8+1)) (dn p b):=by
  obtain ⟨h1,h2⟩:=floor_bounds h b
  have hc:((256 ^ m:Nat):Int)=256 ^ m:=Int.natCast_pow 256 m
  have hb:=(sz_two b).1
  have hb':((2 ^ b:Nat):Int) < 256 ^ (b / 8+1):=by
    have e:(two b).num=((2 ^ b:Nat):Int):=rfl
    have:((two b).num.natAbs:Int) < 256 ^ (b / 8+1):=hb
    rw [e,Int.natAbs_natCast] at this; exact this
  have hp:(0:Int) < ((2 ^ b:Nat):Int):=by have:=Nat.pow_pos (n:=b) (show 0 < 2 by omega); omega
  have hP:=p256_pos m
  have hQ:=p256_pos (b / 8+1)
  unfold dn
  rw [← two_inv]
  refine Sz.divInt ?_ hp ?_
  · rw [Int.pow_add]
    have:=Int.mul_lt_mul_of_pos_left hb' hP
    rw [hc] at h1 h2
    omega
  · rw [Int.pow_add]
    have:=Int.mul_le_mul_of_nonneg_right (show (1:Int)≤256 ^ m by omega) (show (0:Int)≤256 ^ (b / 8+1) by omega)
    omega
def IBd (m:Nat) (i:I2):Prop:=Bd m i.1∧Bd m i.2
theorem IBd.mono (h:IBd m i) (hm:m≤m'):IBd m' i:=⟨h.1.mono hm,h.2.mono hm⟩
theorem IBd.add (h:IBd m i) (h':IBd m j):IBd (m+1) (iAdd i j):=⟨h.1.add h'.1,h.2.add h'.2⟩
theorem IBd.sub (h:IBd m i) (h':IBd m j):IBd (m+1) (iSub i j):=⟨h.1.sub h'.2,h.2.sub h'.1⟩
theorem IBd.mul (h:IBd m i) (h':IBd m' j):IBd (m+m') (iMul i j):=by
  have key:∀ z,z∈[i.1*j.1,i.1*j.2,i.2*j.1,i.2*j.2]→Bd (m+m') z:=by
    intro z hz
    simp only [List.mem_cons,List.not_mem_nil,or_false] at hz
    rcases hz with rfl | rfl | rfl | rfl
    · exact h.1.mul h'.1
    · exact h.1.mul h'.2
    · exact h.2.mul h'.1
    · exact h.2.mul h'.2
  obtain ⟨e1,e2⟩:=span_end (i.1*j.1) [i.1*j.2,i.2*j.1,i.2*j.2]
  exact ⟨key _ e1,key _ e2⟩
theorem IBd.around (h:Bd m p) (b:Nat):IBd (m+1) (iAround p b):=⟨h.dn b,(h.neg.dn b).neg⟩
theorem IBd.round (h:IBd m i) (b:Nat):IBd (m+1) (iRound i b):=⟨h.1.dn b,(h.2.neg.dn b).neg⟩
def ISz (m:Nat) (i:I2):Prop:=Sz m i.1∧Sz m i.2
theorem ISz.mono (h:ISz m i) (hm:m≤m'):ISz m' i:=⟨h.1.mono hm,h.2.mono hm⟩
theorem ISz.round (h:IBd m i) (b:Nat):ISz (m+(b / 8+1)) (iRound i b):=⟨sz_dn' h.1 b,(sz_dn' h.2.neg b).neg⟩
theorem bd_zero:IBd 1 iZero:=by
  have h:Bd 1 0:=Bd.of_sz sz_zero
  exact ⟨h,h⟩
theorem bd_evalStep {c:Rat} {r:I2} (hr:IBd m r) (hm:1≤m) (hi:IBd 12 i) (hc:Bd 12 c) (b:Nat):IBd (m+13) (iAdd (iMul r i) (iAround c b)):=
  (hr.mul hi).add ((IBd.around hc b).mono (by omega))
theorem bd_eval (hi:IBd 12 i) (b:Nat):∀ vs:List Rat,(∀ c∈vs,Bd 12 c)→IBd (1+14*vs.length) (iEval vs i b)
  | [],_=>bd_zero
  | c :: vs,h=>((bd_evalStep (bd_eval hi b vs fun x hx=>h x (List.mem_cons_of_mem _ hx)) (by omega) hi (h c (List.mem_cons_self ..)) b).round b).mono (by simp only [List.length_cons]; omega)
theorem sz_eval (hi:IBd 12 i) (b:Nat) (hb:b≤200) (vs:List Rat) (hl:vs.length≤7) (h:∀ c∈vs,Bd 12 c):ISz 200 (iEval vs i b):=by
  cases vs with
  | nil=>exact ⟨sz_zero.mono (by omega),sz_zero.mono (by omega)⟩
  | cons c vs=>
    simp only [List.length_cons] at hl
    exact (ISz.round (bd_evalStep (bd_eval hi b vs fun x hx=>h x (List.mem_cons_of_mem _ hx)) (by omega) hi (h c (List.mem_cons_self ..)) b) b).mono (by omega)
end
end Go.Proofs.YthghchjbomlpfaaGreat.Ev

namespace Go.Proofs.YthghchjbomlpfaaGreat.Ev
set_option linter.unusedVariables false
section
variable (x y:BxT) (b:Int)
theorem checkBx:Evt (fun k=>enclosure_CheckBox k x) (chkB x):=checkBox_ok x.1 x.2
theorem rcheckBx:Evt (fun k=>galoisref19_CheckBox k x) (chkB x):=rcheckBox_ok x.1 x.2
theorem encAddBox_ok:Res (fun k=>enclosure_AddBox k x y) (OutB (fstL [chkB x,chkB y]) (BQ (1024+1024+1) (bAdd (bV x) (bV y)))):=by
  unfold enclosure_AddBox
  refine Res.bind (checkBx x).res fun _ h=>?_
  subst h
  refine Res.bind (checkBx y).res fun _ h=>?_
  subst h
  refine Res.bind (firstL_ok _ (by show 2≤_; omega)).res fun _ h=>?_
  subst h
  refine outB_core fun h=>?_
  have h':=fstL_zero.1 h
  exact bxAddQ (chkB_Q (h' _ (by simp))) (chkB_Q (h' _ (by simp))) (by omega) (by omega)
theorem encSubBox_ok:Res (fun k=>enclosure_SubBox k x y) (OutB (fstL [chkB x,chkB y]) (BQ (1024+1024+1) (bSub (bV x) (bV y)))):=by
  unfold enclosure_SubBox
  refine Res.bind (checkBx x).res fun _ h=>?_
  subst h
  refine Res.bind (checkBx y).res fun _ h=>?_
  subst h
  refine Res.bind (firstL_ok _ (by show 2≤_; omega)).res fun _ h=>?_
  subst h
  refine outB_core fun h=>?_
  have h':=fstL_zero.1 h
  exact bxSubQ (chkB_Q (h' _ (by simp))) (chkB_Q (h' _ (by simp))) (by omega) (by omega)
theorem encMulBox_ok:Res (fun k=>enclosure_MulBox k x y) (OutB (fstL [chkB x,chkB y]) (BQ (1024+1024+(1024+1024)+1) (bMul (bV x) (bV y)))):=by
  unfold enclosure_MulBox
  refine Res.bind (checkBx x).res fun _ h=>?_
  subst h
  refine Res.bind (checkBx y).res fun _ h=>?_
  subst h
  refine Res.bind (firstL_ok _ (by show 2≤_; omega)).res fun _ h=>?_
  subst h
  refine outB_core fun h=>?_
  have h':=fstL_zero.1 h
  exact bxMulQ (m:=1024) (m':=1024) (chkB_Q (h' _ (by simp))) (chkB_Q (h' _ (by simp))) (by omega) (by omega)
theorem encConjBox_ok:Res (fun k=>enclosure_ConjugateBox k x) (OutB (fstL [chkB x]) (BQ 1024 (bConj (bV x)))):=by
  unfold enclosure_ConjugateBox
  refine Res.bind (checkBx x).res fun _ h=>?_
  subst h
  refine Res.bind (firstL_ok _ (by show 1≤_; omega)).res fun _ h=>?_
  subst h
  refine outB_core (f:=fun _=>ival_ConjugateBox x) fun h=>?_
  have h':=fstL_zero.1 h
  obtain ⟨z,h1,h2⟩:=bxConjQ (chkB_Q (h' (chkB x) (by simp)))
  exact Res.of_some h1 h2
theorem encRoundBox_ok:Res (fun k=>enclosure_RoundBox k x b) (OutB (fstL [chkB x,bitsE b]) (BQ (1024+1026) (bRound (bV x) b.toNat))):=by
  unfold enclosure_RoundBox
  refine Res.bind (checkBx x).res fun _ h=>?_
  subst h
  simp only [grid_eq,Option.bind_some]
  refine Res.bind (firstL_ok _ (by show 2≤_; omega)).res fun _ h=>?_
  subst h
  refine outB_core fun h=>?_
  have h':=fstL_zero.1 h
  obtain ⟨n,rfl,hn⟩:=bitsE_zero (h' (bitsE b) (by simp))
  exact bxRoundQ n hn (chkB_Q (h' _ (by simp))) (by omega)
def apBX:Bool:=decide (fstL [chkB x,chkB y]=0)&&decide (apX (bV x) (bV y))
theorem chkB_le {x:BxT} (h:chkB x=0):(bV x).1.1≤(bV x).1.2∧(bV x).2.1≤(bV x).2.2:=⟨(chkE_zero (chkB_zero h).1).2.2.2.2,(chkE_zero (chkB_zero h).2).2.2.2.2⟩
theorem encApartBox_ok:Evt (fun k=>enclosure_ApartBox k x y) (apBX x y,fstL [chkB x,chkB y]):=by
  unfold enclosure_ApartBox
  refine Evt.bind (checkBx x) ?_
  refine Evt.bind (checkBx y) ?_
  refine Evt.bind (firstL_ok _ (by show 2≤_; omega)) ?_
  unfold apBX
  by_cases h:fstL [chkB x,chkB y]=0
  · have h':=fstL_zero.1 h
    have hx:chkB x=0:=h' _ (by simp)
    simp only [decide_eq_true h,Bool.true_and]
    refine Evt.bind (bxApartQ (chkB_Q hx) (chkB_Q (h' _ (by simp))) (chkB_le hx).1 (chkB_le hx).2 (by omega)) ?_
    rw [h]; exact Evt.pure
  · simp only [decide_eq_false h,Bool.false_and]; exact Evt.pure
theorem rApBX_ok (h:fstL [chkB x,chkB y]=0):Evt (fun k=>galoisref19_ApartBox k x y) (apBX x y):=by
  have h':=fstL_zero.1 h
  unfold apBX
  rw [decide_eq_true h,Bool.true_and]
  exact rbxApartQ (chkB_Q (h' _ (by simp))) (chkB_Q (h' _ (by simp))) (by omega)
theorem encMeetBox_ok:Res (fun k=>enclosure_MeetBox k x y) (OutB (fstL [chkB x,chkB y,noneE (apBX x y)]) (BQ 1024 (bMeet (bV x) (bV y)))):=by
  rw [fst3]
  unfold enclosure_MeetBox enclosure_MeetBox.top
  refine Res.bind (checkBx x).res fun _ h=>?_
  subst h
  refine Res.bind (checkBx y).res fun _ h=>?_
  subst h
  refine Res.bind (firstL_ok _ (by show 2≤_; omega)).res fun _ h=>?_
  subst h
  have last:∀ e:Int,(e=0→fstL [chkB x,chkB y]=0)→Res2 (fun k n=>enclosure_MeetBox.l1 k n e x y zB) (OutB e (BQ 1024 (bMeet (bV x) (bV y)))):=by
    intro e he
    refine Res2.succ (g:=fun k _=>enclosure_MeetBox.b1 k e x y zB) (fun _ _=>rfl) ?_
    unfold enclosure_MeetBox.b1
    have:=outB_core (e:=e) (f:=fun k=>ival_MeetBox k x y) (Q:=BQ 1024 (bMeet (bV x) (bV y))) fun h=>by
      have h':=fstL_zero.1 (he h)
      exact bxMeetQ (chkB_Q (h' _ (by simp))) (chkB_Q (h' _ (by simp))) (by omega)
    obtain ⟨r,⟨M,hM⟩,hr⟩:=this
    exact ⟨r,⟨M,fun k n hk _=>hM k hk⟩,hr⟩
  have first:∀ (e:Int) (t:Bool),(e=0→fstL [chkB x,chkB y]=0)→Res2 (fun k n=>enclosure_MeetBox.l0 k n e t x y zB) (OutB (bif t then 10 else e) (BQ 1024 (bMeet (bV x) (bV y)))):=by
    intro e t he
    refine Res2.succ (g:=fun k n=>enclosure_MeetBox.b0 k (enclosure_MeetBox.l1 k n) e t x y zB) (fun _ _=>rfl) ?_
    unfold enclosure_MeetBox.b0
    cases t
    · exact last e he
    · exact last 10 (fun h=>by simp at h)
  by_cases h:fstL [chkB x,chkB y]=0
  · have h':=fstL_zero.1 h
    have hx:chkB x=0:=h' _ (by simp)
    simp only [bp h,if_pos h]
    refine Res.bind (bxApartQ (chkB_Q hx) (chkB_Q (h' _ (by simp))) (chkB_le hx).1 (chkB_le hx).2 (by omega)).res fun _ h1=>?_
    subst h1
    have:=(first (fstL [chkB x,chkB y]) (decide (apX (bV x) (bV y))) (fun h=>h)).diag
    unfold apBX
    rw [decide_eq_true h,Bool.true_and]
    rw [h] at this ⊢
    exact this
  · simp only [bn h,if_neg h]
    exact (first (fstL [chkB x,chkB y]) false (fun h=>h)).diag
theorem encEvalBox_ok (l:List RT) (hl:l.length≤7):Res (fun k=>enclosure_EvalBox k l x b) (OutB (fstL [polyE l,chkB x,bitsE b]) (BQ (bsz l.length) (bEval (l.map rv) (bV x) b.toNat))):=by
  unfold enclosure_EvalBox
  refine Res.bind (qpolyCheck_ok l).res fun _ h=>?_
  subst h
  refine Res.bind (checkBx x).res fun _ h=>?_
  subst h
  simp only [grid_eq,Option.bind_some]
  refine Res.bind (firstL_ok _ (by show 3≤_; omega)).res fun _ h=>?_
  subst h
  refine outB_core fun h=>?_
  have h':=fstL_zero.1 h
  obtain ⟨n,rfl,hn⟩:=bitsE_zero (h' (bitsE b) (by simp))
  obtain ⟨p1,p2,_⟩:=polyE_zero (h' (polyE l) (by simp))
  exact bevalQ l _ p2 hl (chkB_Q (h' _ (by simp))) n hn
end
theorem fewPoly_len (l:List RT):∃ b,Evt (fun k=>galoisref19_FewPoly k l) b∧(b=true→l.length≤7):=by
  obtain ⟨b,hb⟩:=fewPoly_ok l
  refine ⟨b,hb,fun h=>?_⟩
  by_cases h7:7 < (l.length:Int)
  · obtain ⟨n,hn⟩:=hb
    have:=hn n (Nat.le_refl n)
    simp only [galoisref19_FewPoly,galoisref19_FewPoly.top,bp h7,Option.some.injEq] at this
    rw [h] at this; simp at this
  · omega
end Go.Proofs.YthghchjbomlpfaaGreat.Ev

namespace Go.Proofs.YthghchjbomlpfaaGreat.Ev
set_option linter.unusedVariables false
theorem natTwo_list (n:Nat):∃ c:ByteArray,c.data.toList=UInt8.ofNat (2 ^ (n % 8)) :: List.replicate (n / 8) 0∧Nat_ c∧nv c=2 ^ n:=by
  have hm:n % 8 < 8:=Nat.mod_lt _ (by omega)
  have h1:2 ^ (n % 8)≤2 ^ 7:=Nat.pow_le_pow_right (by omega) (by omega)
  have h2:0 < 2 ^ (n % 8):=Nat.pow_pos (by omega)
  have hb:(UInt8.ofNat (2 ^ (n % 8))).toNat=2 ^ (n % 8):=by rw [UInt8.toNat_ofNat',Nat.mod_eq_of_lt (by omega)]
  have hp:(2:Int) ^ (n % 8)=((2 ^ (n % 8):Nat):Int):=by push_cast; rfl
  have hd:(⟨(UInt8.ofNat (2 ^ (n % 8)) :: List.replicate (n / 8) 0).toArray⟩:ByteArray).data.toList=UInt8.ofNat (2 ^ (n % 8)) :: List.replicate (n / 8) 0:=rfl
  refine ⟨⟨(UInt8.ofNat (2 ^ (n % 8)) :: List.replicate (n / 8) 0).toArray⟩,hd,?_,?_⟩
  · show Nrm _
    rw [hd]
    intro e
    have e':UInt8.ofNat (2 ^ (n % 8))=0:=by simpa using e
    rw [e'] at hb
    simp at hb
    omega
  · show bz _=_
    rw [hd,bz_cons,bz_zeros,hb,List.length_replicate,← hp,show (256:Int)=2 ^ 8 from rfl,← Int.pow_mul,← Int.pow_add,Int.add_zero]
    congr 1; omega
theorem pow2B_two:∀ j:Fin 8,pow2B (UInt8.ofNat (2 ^ j.val)).toNat=true:=by decide +kernel
theorem dy_of_two {b:ByteArray} (hb:Nat_ b) {n:Nat} (h:nv b=2 ^ n):dy b.data.toList=true:=by
  obtain ⟨c,h1,h2,h3⟩:=natTwo_list n
  obtain rfl:=nv_inj hb h2 (h.trans h3.symm)
  rw [h1]
  have hp:=pow2B_two ⟨n % 8,Nat.mod_lt _ (by omega)⟩
  simp only at hp
  show (pow2B _&&(List.replicate (n / 8) (0:UInt8)).all (· == 0))=true
  rw [hp,Bool.true_and,List.all_eq_true]
  intro x hx
  simp [List.eq_of_mem_replicate hx]
theorem two_of_dy {b:ByteArray} (hb:Nat_ b) (h0:nv b≠0) (h:dy b.data.toList=true):∃ n:Nat,nv b=((2 ^ n:Nat):Int):=by
  cases hl:b.data.toList with
  | nil=>exact absurd ((nat_ne hb).1 hl) h0
  | cons c l=>
    rw [hl] at h
    have hc0:c≠0:=fun e=>by apply hb; rw [hl,e]; rfl
    have hc:c.toNat≠0:=fun e=>hc0 (UInt8.toNat_inj.1 (show c.toNat=(0:UInt8).toNat from e))
    have hc256:c.toNat < 256:=by have:=u8_lt c; omega
    have h':(pow2B c.toNat&&l.all (· == 0))=true:=h
    rw [Bool.and_eq_true] at h'
    have hp:=pow2_all ⟨c.toNat,hc256⟩ hc
    simp only at hp
    rw [h'.1] at hp
    have hp':=of_decide_eq_true hp.symm
    have hz:l=List.replicate l.length 0:=List.eq_replicate_iff.2 ⟨rfl,fun z hz=>by simpa using List.all_eq_true.1 h'.2 z hz⟩
    refine ⟨bitLen c.toNat - 1+8*l.length,?_⟩
    rw [nv,hl,bz_cons]
    have e0:bz l=0:=by rw [hz]; exact bz_zeros _
    have e1:((2 ^ (bitLen c.toNat - 1+8*l.length):Nat):Int)=((2 ^ (bitLen c.toNat - 1):Nat):Int)*256 ^ l.length:=by
      rw [Nat.pow_add,Int.natCast_mul,Nat.pow_mul]
      congr 1
    rw [e0,e1,← hp',Int.add_zero]
theorem dvd_two_pow:∀ (n d:Nat),d∣2 ^ n→∃ m,d=2 ^ m
  | 0,d,h=>⟨0,by rw [Nat.pow_zero] at h; exact Nat.dvd_one.1 h⟩
  | n+1,d,h=>by
    rcases Nat.mod_two_eq_zero_or_one d with e | e
    · obtain ⟨c,rfl⟩:=Nat.dvd_of_mod_eq_zero e
      rw [Nat.pow_succ,Nat.mul_comm (2 ^ n) 2] at h
      obtain ⟨m,rfl⟩:=dvd_two_pow n c (Nat.dvd_of_mul_dvd_mul_left (show 0 < 2 by omega) h)
      exact ⟨m+1,by rw [Nat.pow_succ,Nat.mul_comm]⟩
    · have hco:Nat.Coprime d 2:=by
        have:Nat.gcd d 2∣2:=Nat.gcd_dvd_right _ _
        have h2:Nat.gcd d 2≤2:=Nat.le_of_dvd (by omega) this
        have h3:Nat.gcd d 2∣d:=Nat.gcd_dvd_left _ _
        have h4:Nat.gcd d 2≠0:=fun e=>by rw [e] at this; omega
        show Nat.gcd d 2=1
        rcases (show Nat.gcd d 2=1∨Nat.gcd d 2=2 by omega) with h5 | h5
        · exact h5
        · rw [h5] at h3; omega
      rw [Nat.pow_succ,Nat.mul_comm] at h
      exact dvd_two_pow n d (hco.dvd_of_dvd_mul_left h)
theorem den_of_dy {p:Rat} (h:Dy p):∃ m:Nat,p.den=2 ^ m:=by
  obtain ⟨n,z,h⟩:=h
  refine dvd_two_pow n p.den ?_
  have e:p=Rat.divInt z ((2 ^ n:Nat):Int):=by rw [two_inv,← h]; exact (two_mul_inv p n).symm
  have hp:0 < 2 ^ n:=Nat.pow_pos (by omega)
  have hd:p.den=((2 ^ n:Nat):Int).natAbs / ((2 ^ n:Nat):Int).gcd z:=by
    have:=Rat.den_divInt z ((2 ^ n:Nat):Int)
    rw [if_neg (by omega),← e] at this
    exact this
  rw [hd,Int.natAbs_natCast]
  exact Nat.div_dvd_of_dvd (by rw [Int.gcd,Int.natAbs_natCast]; exact Nat.gcd_dvd_left _ _)
theorem dy_of_den {p:Rat} {n:Nat} (h:(p.den:Int)=((2 ^ n:Nat):Int)):Dy p:=by
  refine ⟨n,p.num,?_⟩
  have e:p=(p.num:Rat) / two n:=by
    rw [← two_inv,← h,Rat.divInt_ofNat,Rat.mkRat_self]
  have:(p.num:Rat) / two n*two n=p.num:=Rat.div_mul_cancel (two_ne n)
  rw [← e] at this
  exact this
section
variable {m m':Nat} {p q:Rat} {u:RT} {x v:IvT} {i j:I2}
theorem ratE_of (h:RQ q u) (s:Sz 1024 q):ratE u=0:=by
  obtain ⟨z1,z2⟩:=h.size s
  have hi:intE u.1=0:=intE_zero.2 ⟨h.1.1.1,z1⟩
  have hn:natE u.2=0:=natE_zero.2 ⟨h.1.1.2.1,z2⟩
  have hne:u.2.data.toList≠[]:=fun e=>h.1.1.2.2 ((nat_ne h.1.1.2.1).1 e)
  unfold ratE
  rw [if_neg (by rw [hi,hn]; simp [hne]),if_neg (by simp [hi]),if_neg (by simp [hn]),if_pos h.1.2]
theorem chkE_of (h:IQ m i x) (s:ISz 1024 i) (hd:DyI i) (hle:i.1≤i.2):chkE x=0:=by
  obtain ⟨h1,h2,_⟩:=h
  obtain ⟨n1,e1⟩:=den_of_dy hd.1
  obtain ⟨n2,e2⟩:=den_of_dy hd.2
  have g1:=ratE_of h1 s.1
  have g2:=ratE_of h2 s.2
  have d1:dy x.1.2.data.toList=true:=dy_of_two h1.1.1.2.1 (n:=n1) (by rw [h1.num.2,e1]; push_cast; rfl)
  have d2:dy x.2.2.data.toList=true:=dy_of_two h2.1.1.2.1 (n:=n2) (by rw [h2.num.2,e2]; push_cast; rfl)
  unfold chkE
  rw [if_neg (by simp [g1]),if_neg (by simp [g2]),if_pos ⟨d1,d2⟩,cmp_val h1 h2]
  unfold cmpQ
  rw [if_neg]
  split
  · decide
  · rw [if_neg (fun h=>Rat.not_lt.2 hle h)]; decide
theorem chkE_dy (h:chkE x=0):DyI (iV x):=by
  obtain ⟨h1,h2,h3,h4,_⟩:=chkE_zero h
  have q1:=(ratE_Q h1).1
  have q2:=(ratE_Q h2).1
  obtain ⟨n1,e1⟩:=two_of_dy q1.1.1.2.1 q1.1.1.2.2 h3
  obtain ⟨n2,e2⟩:=two_of_dy q2.1.1.2.1 q2.1.1.2.2 h4
  exact ⟨dy_of_den (n:=n1) (by show ((rv x.1).den:Int)=_; rw [← q1.num.2,e1]),dy_of_den (n:=n2) (by show ((rv x.2).den:Int)=_; rw [← q2.num.2,e2])⟩
theorem large_of (h:IQ m i x) (s:ISz 1024 i):largeI x=false:=by
  have z1:=h.1.size s.1
  have z2:=h.2.1.size s.2
  unfold largeI largeR
  rw [bn (by omega),bn (by omega),decide_eq_false (by omega),decide_eq_false (by omega)]; rfl
theorem out_of {r:IvT×Int} (h:OutI 0 (IQ m i) r) (s:ISz 1024 i):∃ v,r=(v,0)∧IQ m i v:=by
  rcases h with ⟨h,_⟩ | ⟨_,v,hv,rfl⟩
  · exact absurd rfl h
  · refine ⟨v,?_,hv⟩
    unfold outI
    rw [large_of hv s]; rfl
theorem has_ok (hv:IQ m i v) (s:ISz 1024 i) (hd:DyI i) (hu:RQ p u) (su:Sz 1024 p) (hm:mem i p):Evt (fun k=>galoislaw19_has k v 0 u) true:=by
  have hc:=chkE_of hv s hd (mem_le hm)
  have hr:=ratE_of hu su
  have h0:fstL [chkE v,ratE u]=0:=fstL_zero.2 (by simp [hc,hr])
  unfold galoislaw19_has
  refine Evt.bind (encHas_ok v u) ?_
  have e:hasB v u=true:=by
    unfold hasB
    rw [decide_eq_true h0,Bool.true_and]
    refine decide_eq_true ?_
    show rv v.1≤rv u∧rv u≤rv v.2
    rw [hv.1.2,hv.2.1.2,hu.2]; exact hm
  rw [e,h0]
  exact Evt.pure
def atV (i:I2) (t:Int):Rat:=i.1+(i.2 - i.1)*Rat.divInt t 16
theorem sz_16 {t:Int} (h0:0≤t) (h1:t≤16):Sz 1 (Rat.divInt t 16):=Sz.divInt (by omega) (by decide) (by decide)
theorem at_ok (hx:IQ 12 i x) (a:Int) (h0:0≤Int.tmod a 17) (h1:Int.tmod a 17≤16):Res (fun k=>galoislaw19_at k x a) (RQ (atV i (Int.tmod a 17))):=by
  obtain ⟨x1,x2,s1,s2⟩:=hx
  unfold galoislaw19_at
  rw [wi _ (by omega) (by omega)]
  refine Res.bind (rsubQ x2 x1 s2 s1 (by omega) (by omega)) fun d hd=>?_
  refine Res.bind (rOfQ (Int.tmod a 17) 16 (by omega) (by omega) (by decide) (by decide) (by decide)) fun e he=>?_
  refine Res.bind (rmulQ hd he (s2.sub s1) (sz_16 h0 h1) (by omega) (by omega)) fun f hf=>?_
  simp only [Option.bind_fun_some]
  exact raddQ x1 hf s1 ((s2.sub s1).mul (sz_16 h0 h1)) (by omega) (by omega)
theorem sz_at (h:ISz 12 i) {t:Int} (h0:0≤t) (h1:t≤16):Sz 39 (atV i t):=(h.1.add ((h.2.sub h.1).mul (sz_16 h0 h1))).mono (by omega)
theorem d16 (t:Int):Rat.divInt t 16=(t:Rat) / 16:=Rat.divInt_eq_div t 16
theorem at_mono (hi:i.1≤i.2) {s t:Int} (h:s≤t):atV i s≤atV i t:=by
  have h2:(s:Rat)≤t:=Rat.intCast_le_intCast.2 h
  have h3:Rat.divInt s 16≤Rat.divInt t 16:=by
    rw [d16,d16,Rat.div_def,Rat.div_def]
    exact Rat.mul_le_mul_of_nonneg_right h2 (Rat.le_of_lt (Rat.inv_pos.2 (by decide)))
  exact Rat.add_le_add_left.2 (Rat.mul_le_mul_of_nonneg_left h3 ((Rat.le_iff_sub_nonneg _ _).1 hi))
theorem at_zero:atV i 0=i.1:=by unfold atV; rw [Rat.zero_divInt,Rat.mul_zero,Rat.add_zero]
theorem at_16:atV i 16=i.2:=by
  unfold atV
  rw [Rat.divInt_self' (by decide),Rat.mul_one]
  grind
theorem mem_at (hi:i.1≤i.2) {t:Int} (h0:0≤t) (h1:t≤16):mem i (atV i t):=by
  have a:=at_mono hi h0
  have b:=at_mono hi h1
  rw [at_zero] at a
  rw [at_16] at b
  exact ⟨a,b⟩
theorem dy_at (h:DyI i) (t:Int):Dy (atV i t):=by
  refine h.1.add ((h.2.sub h.1).mul ?_)
  refine ⟨4,t,?_⟩
  rw [d16]
  exact Rat.div_mul_cancel (show (16:Rat)≠0 by decide)
theorem LQ.sz {vs:List Rat} {l:List RT} (h:LQ m vs l):∀ c∈vs,Sz m c:=by
  intro c hc
  obtain ⟨t,ht,rfl⟩:=List.mem_iff_getElem.1 hc
  have:=(h.2 t (by rw [← h.1]; exact ht)).2
  rw [List.getD_eq_getElem?_getD,List.getElem?_eq_getElem ht] at this
  exact this
theorem sz_reval (hp:Sz m p):∀ vs:List Rat,(∀ c∈vs,Sz m' c)→Sz (1+(m+m'+1)*vs.length) (rEval vs p)
  | [],_=>sz_zero
  | c :: vs,h=>(((sz_reval hp vs fun x hx=>h x (List.mem_cons_of_mem _ hx)).mul hp).add (h c (List.mem_cons_self ..))).mono (by
      rw [List.length_cons,Nat.mul_add,Nat.mul_one]; omega)
theorem revalP (l:List RT) (vs:List Rat) (hv:LQ m' vs l) (hl:l.length≤65) (hu:RQ p u) (su:Sz m p) (hm:m≤1024) (hm':m'≤1024):Res (fun k=>galoisref06_Eval k l u) (RQ (rEval vs p)):=by
  have lim:(m+m'+1)*l.length≤2049*65:=Nat.mul_le_mul (by omega) hl
  have key:∀ (t:Nat) (o:RT),t≤l.length→RQ (rEval (vs.drop t) p) o→Res2 (fun k n=>galoisref06_Eval.l0 k n ((t:Int) - 1) l u zR o) (RQ (rEval vs p)):=by
    intro t
    induction t with
    | zero=>
      intro o ht ho
      refine Res2.succ (g:=fun k n=>galoisref06_Eval.b0 k (galoisref06_Eval.l0 k n) (((0:Nat):Int) - 1) l u zR o) (fun _ _=>rfl) ?_
      unfold galoisref06_Eval.b0
      simp only [bn (show ¬ 0≤((0:Nat):Int) - 1 by omega)]
      exact Res2.pure ho
    | succ t ih=>
      intro o ht ho
      obtain ⟨hq,sq⟩:=hv.2 t (by omega)
      have so:Sz (1+(m+m'+1)*l.length) (rEval (vs.drop (t+1)) p):=(sz_reval su (vs.drop (t+1)) fun c hc=>hv.sz c (List.mem_of_mem_drop hc)).mono (by
        have:(vs.drop (t+1)).length≤l.length:=by rw [List.length_drop,hv.1]; omega
        have:=Nat.mul_le_mul_left (m+m'+1) this
        omega)
      refine Res2.succ (g:=fun k n=>galoisref06_Eval.b0 k (galoisref06_Eval.l0 k n) (((t+1:Nat):Int) - 1) l u zR o) (fun _ _=>rfl) ?_
      unfold galoisref06_Eval.b0
      have e0:((t+1:Nat):Int) - 1=(t:Int):=by omega
      have c1:(0:Int)≤t∧(t:Int) < (l.length:Int):=⟨by omega,by omega⟩
      have e1:IntKind.wrap .i64 ((t:Int) - 1)=(t:Int) - 1:=wi _ (by omega) (by omega)
      simp only [e0,bp c1.1,if_pos c1,Int.toNat_natCast,e1]
      refine Res2.call (rmulQ ho hu so su (by omega) (by omega)) fun a ha=>?_
      refine Res2.call (raddQ ha hq (so.mul su) sq (by omega) (by omega)) fun b hb=>?_
      refine ih b (by omega) ?_
      rw [drop_getD vs 0 t (by rw [hv.1]; omega)]
      exact hb
  unfold galoisref06_Eval galoisref06_Eval.top
  refine Res.bind (rFromIntQ 0 (by decide) (by decide)) fun z hz=>?_
  rw [wi _ (by omega) (by omega)]
  refine (key l.length z (Nat.le_refl _) ?_).diag
  rw [List.drop_of_length_le (by rw [hv.1]; omega)]
  exact hz
end
theorem fit_u8 {x:Int} (h:Fit (.int .u8) x):0≤x∧x < 256:=by
  simp [Fit,Lit.wf,IntKind.min,IntKind.max,IntKind.bits,IntKind.signed] at h
  omega
theorem tmod17 {x:Int} (h:0≤x):0≤Int.tmod x 17∧Int.tmod x 17≤16:=by rw [tm _ _ h]; omega
theorem bits80 {x:Int} (h:0≤x∧x < 256):∃ n:Nat,Int.tmod (IntKind.wrap .i64 x) 80=n∧n < 80:=by
  rw [wi _ (by omega) (by omega),tm _ _ h.1]
  exact ⟨(x % 80).toNat,by omega,by omega⟩
end Go.Proofs.YthghchjbomlpfaaGreat.Ev

namespace Go.Proofs.YthghchjbomlpfaaGreat.Ev
set_option linter.unusedVariables false
theorem fewPoly_full (l:List RT):∃ b,Evt (fun k=>galoisref19_FewPoly k l) b∧(b=true→l.length≤7∧∀ t,t < l.length→galoisref19_short (l.getD t zR)=some true):=by
  unfold galoisref19_FewPoly galoisref19_FewPoly.top
  by_cases h:7 < (l.length:Int)
  · simp only [bp h]; exact ⟨false,Evt.pure,fun h=>by simp at h⟩
  · simp only [bn h]
    have key:∀ (d t:Nat),t+d=l.length→∃ b,Evt (fun n=>galoisref19_FewPoly.l0 n (t:Int) l) b∧(b=true→∀ s,t≤s→s < l.length→galoisref19_short (l.getD s zR)=some true):=by
      intro d
      induction d with
      | zero=>
        intro t ht
        refine ⟨true,Evt.succ (g:=fun n=>galoisref19_FewPoly.b0 (galoisref19_FewPoly.l0 n) (t:Int) l) (fun _=>rfl) ?_,fun _ s h1 h2=>by omega⟩
        unfold galoisref19_FewPoly.b0
        simp only [bn (show ¬ (t:Int) < (l.length:Int) by omega)]
        exact Evt.pure
      | succ d ih=>
        intro t ht
        obtain ⟨s,hs⟩:=short_eq (l.getD t zR)
        obtain ⟨b,hb,hb'⟩:=ih (t+1) (by omega)
        have c1:(0:Int)≤t∧(t:Int) < (l.length:Int):=⟨by omega,by omega⟩
        have e1:IntKind.wrap .i64 ((t:Int)+1)=((t+1:Nat):Int):=by rw [wi _ (by omega) (by omega)]; omega
        cases s
        · refine ⟨false,Evt.succ (g:=fun n=>galoisref19_FewPoly.b0 (galoisref19_FewPoly.l0 n) (t:Int) l) (fun _=>rfl) ?_,fun h=>by simp at h⟩
          unfold galoisref19_FewPoly.b0
          simp only [bp c1.2,if_pos c1,Int.toNat_natCast,hs,Option.bind_some]
          exact Evt.pure
        · refine ⟨b,Evt.succ (g:=fun n=>galoisref19_FewPoly.b0 (galoisref19_FewPoly.l0 n) (t:Int) l) (fun _=>rfl) ?_,fun h s h1 h2=>?_⟩
          · unfold galoisref19_FewPoly.b0
            simp only [bp c1.2,if_pos c1,Int.toNat_natCast,hs,Option.bind_some,e1]
            exact hb
          · rcases Nat.lt_or_ge t s with h3 | h3
            · exact hb' h s (by omega) h2
            · obtain rfl:s=t:=by omega
              exact hs
    obtain ⟨b,hb,hb'⟩:=key l.length 0 (by omega)
    exact ⟨b,hb,fun h=>⟨by omega,fun t ht=>hb' h t (by omega) ht⟩⟩
theorem polyE_short {l:List RT} (h:polyE l=0) (hs:∀ t,t < l.length→galoisref19_short (l.getD t zR)=some true):LQ 12 (l.map rv) l:=by
  obtain ⟨_,h2,_⟩:=polyE_zero h
  exact ⟨h2.1,fun t ht=>⟨(h2.2 t ht).1,(h2.2 t ht).1.sz (short_true (hs t ht))⟩⟩
theorem LQ.up {m m':Nat} {vs:List Rat} {l:List RT} (h:LQ m vs l) (hm:m≤m'):LQ m' vs l:=⟨h.1,fun t ht=>⟨(h.2 t ht).1,(h.2 t ht).2.mono hm⟩⟩
section
variable {m m':Nat} {i j:I2}
theorem IQ.isz {x:IvT} (h:IQ m i x):ISz m i:=h.2.2
theorem ISz.add (h:ISz m i) (h':ISz m' j):ISz (m+m'+1) (iAdd i j):=⟨h.1.add h'.1,h.2.add h'.2⟩
theorem ISz.sub (h:ISz m i) (h':ISz m' j):ISz (m+m'+1) (iSub i j):=⟨h.1.sub h'.2,h.2.sub h'.1⟩
theorem ISz.span {a:Rat} {l:List Rat} (h:∀ z∈a :: l,Sz m z):ISz m (iSpan a l):=⟨h _ (span_end a l).1,h _ (span_end a l).2⟩
theorem ISz.mul (h:ISz m i) (h':ISz m' j):ISz (m+m') (iMul i j):=.span fun z hz=>by
  simp only [List.mem_cons,List.not_mem_nil,or_false] at hz
  rcases hz with rfl | rfl | rfl | rfl
  · exact h.1.mul h'.1
  · exact h.1.mul h'.2
  · exact h.2.mul h'.1
  · exact h.2.mul h'.2
theorem ISz.square (h:ISz m i):ISz (m+m) (iSquare i):=by
  have hs:ISz (m+m) (iSpan (i.1*i.1) [i.2*i.2]):=.span fun z hz=>by
    simp only [List.mem_cons,List.not_mem_nil,or_false] at hz
    rcases hz with rfl | rfl
    · exact h.1.mul h.1
    · exact h.2.mul h.2
  unfold iSquare
  split
  · exact ⟨sz_zero' (by have:=h.1.pos; omega),hs.2⟩
  · exact hs
theorem ISz.bd (h:ISz m i):IBd m i:=⟨Bd.of_sz h.1,Bd.of_sz h.2⟩
end
end Go.Proofs.YthghchjbomlpfaaGreat.Ev

namespace Go.Proofs.YthghchjbomlpfaaGreat.Ev
set_option linter.unusedVariables false
abbrev C2:=Rat×Rat
def cmul (z w:C2):C2:=(z.1*w.1 - z.2*w.2,z.1*w.2+z.2*w.1)
def cEval (vs:List Rat) (z:C2):C2:=vs.foldr (fun c r=>((cmul r z).1+c,(cmul r z).2)) (0,0)
abbrev bmem (i:B2) (z:C2):Prop:=mem i.1 z.1∧mem i.2 z.2
section
variable {i j:B2} {z w:C2} {m m':Nat} {p q:Rat}
theorem bmem_mul (hz:bmem i z) (hw:bmem j w):bmem (bMul i j) (cmul z w):=
  ⟨mem_sub (mem_mul hz.1 hw.1) (mem_mul hz.2 hw.2),mem_add (mem_mul hz.1 hw.2) (mem_mul hz.2 hw.1)⟩
theorem bmem_eval (b:Nat) (hz:bmem i z):∀ vs:List Rat,bmem (bEval vs i b) (cEval vs z)
  | []=>⟨⟨Rat.le_refl,Rat.le_refl⟩,Rat.le_refl,Rat.le_refl⟩
  | c :: vs=>by
    have h:=bmem_mul (bmem_eval b hz vs) hz
    have h0:mem iZero 0:=⟨Rat.le_refl,Rat.le_refl⟩
    have h2:=mem_add h.2 h0
    rw [Rat.add_zero] at h2
    exact ⟨mem_round b (mem_add h.1 (mem_around c b)),mem_round b h2⟩
def BBd (m:Nat) (i:B2):Prop:=IBd m i.1∧IBd m i.2
def BSz (m:Nat) (i:B2):Prop:=ISz m i.1∧ISz m i.2
def DyB (i:B2):Prop:=DyI i.1∧DyI i.2
theorem BBd.mul (h:BBd m i) (h':BBd m' j):BBd (m+m'+1) (bMul i j):=⟨(h.1.mul h'.1).sub (h.2.mul h'.2),(h.1.mul h'.2).add (h.2.mul h'.1)⟩
theorem bd_bStep {c:Rat} {r:B2} (hr:BBd m r) (hm:1≤m) (hi:BBd 12 i) (hc:Bd 12 c) (b:Nat):BBd (m+14) (bAdd (bMul r i) (iAround c b,iZero)):=by
  have h:=hr.mul hi
  exact ⟨h.1.add ((IBd.around hc b).mono (by omega)),h.2.add (bd_zero.mono (by omega))⟩
theorem BBd.round (h:BBd m i) (b:Nat):BBd (m+1) (bRound i b):=⟨h.1.round b,h.2.round b⟩
theorem BBd.mono (h:BBd m i) (hm:m≤m'):BBd m' i:=⟨h.1.mono hm,h.2.mono hm⟩
theorem bd_bEval (hi:BBd 12 i) (b:Nat):∀ vs:List Rat,(∀ c∈vs,Bd 12 c)→BBd (1+15*vs.length) (bEval vs i b)
  | [],_=>⟨bd_zero,bd_zero⟩
  | c :: vs,h=>((bd_bStep (bd_bEval hi b vs fun x hx=>h x (List.mem_cons_of_mem _ hx)) (by omega) hi (h c (List.mem_cons_self ..)) b).round b).mono (by simp only [List.length_cons]; omega)
theorem sz_bEval (hi:BBd 12 i) (b:Nat) (hb:b≤200) (vs:List Rat) (hl:vs.length≤7) (h:∀ c∈vs,Bd 12 c):BSz 200 (bEval vs i b):=by
  cases vs with
  | nil=>exact ⟨⟨sz_zero.mono (by omega),sz_zero.mono (by omega)⟩,sz_zero.mono (by omega),sz_zero.mono (by omega)⟩
  | cons c vs=>
    simp only [List.length_cons] at hl
    have:=bd_bStep (bd_bEval hi b vs fun x hx=>h x (List.mem_cons_of_mem _ hx)) (by omega) hi (h c (List.mem_cons_self ..)) b
    exact ⟨(ISz.round this.1 b).mono (by omega),(ISz.round this.2 b).mono (by omega)⟩
theorem dy_bEval (vs:List Rat) (i:B2) (b:Nat):DyB (bEval vs i b):=by
  cases vs with
  | nil=>exact ⟨⟨Dy.int 0,Dy.int 0⟩,Dy.int 0,Dy.int 0⟩
  | cons c vs=>exact ⟨DyI.round _ b,DyI.round _ b⟩
theorem bd_mem {i:I2} (h:IBd m i) (hp:mem i p):Bd m p:=⟨rlt_of_lt_of_le h.1.1 hp.1,rlt_of_le_of_lt hp.2 h.2.2⟩
def nR (d:Nat):Rat:=((d:Int):Rat)
theorem nR_mul (d e:Nat):nR (d*e)=nR d*nR e:=by unfold nR; rw [Int.natCast_mul,Rat.intCast_mul]
def Cd (d:Nat) (p:Rat):Prop:=∃ n:Int,p*nR d=(n:Rat)
theorem Cd.add {d:Nat} (h:Cd d p) (h':Cd d q):Cd d (p+q):=by
  obtain ⟨n,h⟩:=h
  obtain ⟨k,h'⟩:=h'
  exact ⟨n+k,by rw [Rat.add_mul,h,h',Rat.intCast_add]⟩
theorem Cd.neg {d:Nat} (h:Cd d p):Cd d (-p):=by
  obtain ⟨n,h⟩:=h
  exact ⟨-n,by rw [Rat.neg_mul,h,Rat.intCast_neg]⟩
theorem Cd.sub {d:Nat} (h:Cd d p) (h':Cd d q):Cd d (p - q):=by rw [Rat.sub_eq_add_neg]; exact h.add h'.neg
theorem Cd.mul {d e:Nat} (h:Cd d p) (h':Cd e q):Cd (d*e) (p*q):=by
  obtain ⟨n,h⟩:=h
  obtain ⟨k,h'⟩:=h'
  refine ⟨n*k,?_⟩
  rw [nR_mul,Rat.intCast_mul,← h,← h']
  grind
theorem Cd.up {d:Nat} (h:Cd d p) (e:Nat):Cd (d*e) p:=by
  have:=h.mul (q:=1) (e:=e) ⟨(e:Int),by rw [Rat.one_mul]; rfl⟩
  rwa [Rat.mul_one] at this
theorem Cd.den (p:Rat):Cd p.den p:=by
  refine ⟨p.num,?_⟩
  have e:p=(p.num:Rat) / nR p.den:=by
    rw [← show Rat.divInt p.num (p.den:Int)=(p.num:Rat) / nR p.den from Rat.divInt_eq_div _ _,Rat.divInt_ofNat,Rat.mkRat_self]
  have h0:nR p.den≠0:=fun h=>by
    have h1:(0:Rat) < nR p.den:=Rat.intCast_pos.2 (den_pos p)
    rw [h] at h1; exact Rat.lt_irrefl h1
  have:(p.num:Rat) / nR p.den*nR p.den=p.num:=Rat.div_mul_cancel h0
  rwa [← e] at this
theorem Cd.sz {d:Nat} (hd:0 < d) (h:Cd d p) (hb:Bd m p) (hl:(d:Int) < 256 ^ m'):Sz (m+m') p:=by
  obtain ⟨n,h⟩:=h
  have h1:(0:Rat) < nR d:=Rat.intCast_pos.2 (by omega)
  have h0:nR d≠0:=fun h=>by rw [h] at h1; exact Rat.lt_irrefl h1
  have e:p=Rat.divInt n d:=by
    rw [show Rat.divInt n (d:Int)=(n:Rat) / nR d from Rat.divInt_eq_div _ _,← h]
    exact (Rat.mul_div_cancel h0).symm
  have g1:(n:Rat) < pw m*nR d:=by rw [← h]; exact Rat.mul_lt_mul_of_pos_right hb.2 h1
  have g2:-(pw m)*nR d < (n:Rat):=by rw [← h]; exact Rat.mul_lt_mul_of_pos_right hb.1 h1
  have e2:pw m*nR d=((((256 ^ m:Nat):Int)*(d:Int):Int):Rat):=by rw [Rat.intCast_mul]; rfl
  rw [Rat.neg_mul,e2,← Rat.intCast_neg] at g2
  rw [e2] at g1
  have g1':=Rat.intCast_lt_intCast.1 g1
  have g2':=Rat.intCast_lt_intCast.1 g2
  have hc:((256 ^ m:Nat):Int)=256 ^ m:=Int.natCast_pow 256 m
  have hP:=p256_pos m
  have hQ:=p256_pos m'
  rw [hc] at g1' g2'
  have g3:=Int.mul_lt_mul_of_pos_left hl hP
  rw [e]
  refine Sz.divInt ?_ (by omega) ?_
  · rw [Int.pow_add]; omega
  · rw [Int.pow_add]
    have:=Int.mul_le_mul_of_nonneg_right (show (1:Int)≤256 ^ m by omega) (show (0:Int)≤256 ^ m' by omega)
    omega
theorem cd_eval (hz:Sz m z.1∧Sz m z.2):∀ vs:List Rat,(∀ c∈vs,Sz m' c)→∃ d:Nat,0 < d∧(d:Int) < 256 ^ (1+(m+m+m')*vs.length)∧Cd d (cEval vs z).1∧Cd d (cEval vs z).2
  | [],_=>⟨1,by omega,by show (1:Int) < 256 ^ (1+(m+m+m')*0); rw [Nat.mul_zero]; decide,⟨0,Rat.zero_mul _⟩,⟨0,Rat.zero_mul _⟩⟩
  | c :: vs,h=>by
    obtain ⟨d,d0,d1,d2,d3⟩:=cd_eval hz vs fun x hx=>h x (List.mem_cons_of_mem _ hx)
    have hc:=h c (List.mem_cons_self ..)
    have p1:=z.1.den_pos
    have p2:=z.2.den_pos
    have p3:=c.den_pos
    have a1:Cd (z.1.den*z.2.den) z.1:=(Cd.den z.1).up _
    have a2:Cd (z.1.den*z.2.den) z.2:=by rw [Nat.mul_comm]; exact (Cd.den z.2).up _
    refine ⟨d*(z.1.den*z.2.den)*c.den,Nat.mul_pos (Nat.mul_pos d0 (Nat.mul_pos p1 p2)) p3,?_,?_,?_⟩
    · rw [List.length_cons,Nat.mul_add,Nat.mul_one,← Nat.add_assoc]
      generalize 1+(m+m+m')*vs.length=K at d1 ⊢
      rw [Int.pow_add 256 K,Int.pow_add 256 (m+m),Int.pow_add 256 m]
      push_cast
      rw [Int.mul_assoc]
      refine ltmul (by omega) d1 (Int.mul_nonneg (Int.mul_nonneg (by omega) (by omega)) (by omega)) ?_
      exact ltmul (Int.mul_nonneg (by omega) (by omega)) (ltmul (by omega) hz.1.2 (by omega) hz.2.2) (by omega) hc.2
    · refine Cd.add (((d2.mul a1).sub (d3.mul a2)).up _) ?_
      rw [Nat.mul_comm]; exact (Cd.den c).up _
    · exact ((d2.mul a2).add (d3.mul a1)).up _
theorem sz_ceval {i:B2} (hi:BBd 12 i) (hm:bmem i z) (hz:Sz 39 z.1∧Sz 39 z.2) (vs:List Rat) (hl:vs.length≤7) (h:∀ c∈vs,Sz 12 c):Sz 1000 (cEval vs z).1∧Sz 1000 (cEval vs z).2:=by
  obtain ⟨d,d0,d1,d2,d3⟩:=cd_eval hz vs h
  have b:=bd_bEval hi 0 vs fun c hc=>Bd.of_sz (h c hc)
  have e:=bmem_eval 0 hm vs
  have l1:(39+39+12)*vs.length≤630:=by omega
  exact ⟨(d2.sz d0 (bd_mem b.1 e.1) d1).mono (by omega),(d3.sz d0 (bd_mem b.2 e.2) d1).mono (by omega)⟩
theorem sz_cway (hz:Sz 39 z.1∧Sz 39 z.2):∀ vs:List Rat,(∀ c∈vs,Sz 12 c)→vs.length≤7→Sz (93*2 ^ vs.length) (cEval vs z).1∧Sz (93*2 ^ vs.length) (cEval vs z).2:=by
  have key:∀ vs:List Rat,(∀ c∈vs,Sz 12 c)→∃ s,s+92≤93*2 ^ vs.length∧Sz s (cEval vs z).1∧Sz s (cEval vs z).2:=by
    intro vs
    induction vs with
    | nil=>intro _; exact ⟨1,by simp,sz_zero,sz_zero⟩
    | cons c vs ih=>
      intro h
      obtain ⟨s,s0,s1,s2⟩:=ih fun x hx=>h x (List.mem_cons_of_mem _ hx)
      have hc:=h c (List.mem_cons_self ..)
      refine ⟨s+39+(s+39)+1+12+1,?_,((s1.mul hz.1).sub (s2.mul hz.2)).add hc,((s1.mul hz.2).add (s2.mul hz.1)).mono (by omega)⟩
      rw [List.length_cons,Nat.pow_succ]; omega
  intro vs h _
  obtain ⟨s,s0,s1,s2⟩:=key vs h
  exact ⟨s1.mono (by omega),s2.mono (by omega)⟩
end
end Go.Proofs.YthghchjbomlpfaaGreat.Ev

namespace Go.Proofs.YthghchjbomlpfaaGreat.Ev
set_option linter.unusedVariables false
set_option maxRecDepth 100000
theorem ctx_ok:CtxOK Tryz.prog ctx:=ctxB_ok (by kernel_rfl)
theorem mixed_ok:Tryz.prog.follows .mixedOrders=true:=by kernel_rfl
theorem add64.sound {β:Type}:FunOK Tryz.prog ctx 224 (add64.C:Fun β):=add64_ok (fn:=Tryz.f224) (by kernel_rfl) (by kernel_rfl) (by kernel_rfl) (by kernel_rfl) (by kernel_rfl) rfl
theorem sub64.sound {β:Type}:FunOK Tryz.prog ctx 232 (sub64.C:Fun β):=sub64_ok (fn:=Tryz.f232) (by kernel_rfl) (by kernel_rfl) (by kernel_rfl) (by kernel_rfl) (by kernel_rfl) rfl
end Go.Proofs.YthghchjbomlpfaaGreat.Ev

namespace Go.Proofs.YthghchjbomlpfaaGreat.Ev
set_option linter.unusedVariables false
set_option maxRecDepth 100000
theorem galoisref01_pack.t (L:Labels ByteArray) (a0:List Int):evTop ctx orcNil L galoisref01_pack.note Tryz.f209 [.data (.slice (.int .u64)) a0] (kR [.d .str])=galoisref01_pack.top (galoisref01_pack.s0 L) a0:=by kernel_rfl
theorem galoisref01_pack.e0 (L:Labels ByteArray):galoisref01_pack.s0 (evLab ctx orcNil L galoisref01_pack.note Tryz.f209 1 (kR [.d .str]))=galoisref01_pack.b0 (galoisref01_pack.s1 L):=by kernel_rfl
theorem galoisref01_pack.e1 (L:Labels ByteArray):galoisref01_pack.s1 (evLab ctx orcNil L galoisref01_pack.note Tryz.f209 1 (kR [.d .str]))=galoisref01_pack.b1 (galoisref01_pack.s0 L) (galoisref01_pack.s1 L):=by kernel_rfl
theorem galoisref01_pack.run:∀ n,galoisref01_pack.s0 (evRun ctx orcNil galoisref01_pack.note Tryz.f209 1 (kR [.d .str]) n)=galoisref01_pack.l0 n∧galoisref01_pack.s1 (evRun ctx orcNil galoisref01_pack.note Tryz.f209 1 (kR [.d .str]) n)=galoisref01_pack.l1 n:=by
  intro n
  induction n with
  | zero=>exact ⟨rfl,rfl⟩
  | succ n ih=>exact ⟨(galoisref01_pack.e0 _).trans (by simp only [ih]; rfl),(galoisref01_pack.e1 _).trans (by simp only [ih]; rfl)⟩
theorem galoisref01_pack.sound {β:Type} (k:Nat):FunOK Tryz.prog ctx 209 (galoisref01_pack.C k:Fun β):=soundN (k:=k) (n:=galoisref01_pack.note) ctx_ok mixed_ok (by kernel_rfl) (by kernel_rfl) orcNil_ok fun a0=>(galoisref01_pack.t (evRun ctx orcNil galoisref01_pack.note Tryz.f209 1 (kR [.d .str]) k) a0).trans (by simp only [galoisref01_pack.run]; rfl)
theorem galoisref01_Of.t (k:Nat) (L:Labels ByteArray) (a0:Int):evTop ctx (galoisref01_Of.orc k) L galoisref01_Of.note Tryz.f190 [.data (.int .u64) a0] (kR [.d .str])=galoisref01_Of k a0:=by kernel_rfl
theorem galoisref01_Of.sound {β:Type} (k:Nat):FunOK Tryz.prog ctx 190 (galoisref01_Of.C k:Fun β):=soundN (k:=k) (n:=galoisref01_Of.note) ctx_ok mixed_ok (by kernel_rfl) (by kernel_rfl) (orc_sound (orc_cons (galoisref01_pack.sound k) orc_nil)) fun a0=>(galoisref01_Of.t k _ a0).trans rfl
theorem galoisref02_FromInt.t (k:Nat) (L:Labels D0) (a0:Int):evTop ctx (galoisref02_FromInt.orc k) L galoisref02_FromInt.note Tryz.f140 [.data (.int .i64) a0] (kR [.d Y0])=galoisref02_FromInt k a0:=by kernel_rfl
theorem galoisref02_FromInt.sound {β:Type} (k:Nat):FunOK Tryz.prog ctx 140 (galoisref02_FromInt.C k:Fun β):=soundN (k:=k) (n:=galoisref02_FromInt.note) ctx_ok mixed_ok (by kernel_rfl) (by kernel_rfl) (orc_sound (orc_cons (galoisref01_Of.sound k) orc_nil)) fun a0=>(galoisref02_FromInt.t k _ a0).trans rfl
theorem galoisref01_trim.t (L:Labels Nat) (a0:List Int):evTop ctx orcNil L galoisref01_trim.note Tryz.f227 [.data (.slice (.int .u64)) a0] (kR [.w 0])=galoisref01_trim.top (galoisref01_trim.s0 L) a0:=by kernel_rfl
theorem galoisref01_trim.e0 (L:Labels Nat):galoisref01_trim.s0 (evLab ctx orcNil L galoisref01_trim.note Tryz.f227 1 (kR [.w 0]))=galoisref01_trim.b0 (galoisref01_trim.s0 L):=by kernel_rfl
theorem galoisref01_trim.run:∀ n,galoisref01_trim.s0 (evRun ctx orcNil galoisref01_trim.note Tryz.f227 1 (kR [.w 0]) n)=galoisref01_trim.l0 n:=run1 rfl galoisref01_trim.e0 (fun _=>rfl)
theorem galoisref01_trim.sound {β:Type} (k:Nat):FunOK Tryz.prog ctx 227 (galoisref01_trim.C k:Fun β):=soundN (k:=k) (n:=galoisref01_trim.note) ctx_ok mixed_ok (by kernel_rfl) (by kernel_rfl) orcNil_ok fun a0=>(galoisref01_trim.t (evRun ctx orcNil galoisref01_trim.note Tryz.f227 1 (kR [.w 0]) k) a0).trans (by simp only [galoisref01_trim.run]; rfl)
theorem galoisref01_limbs.t (k:Nat) (L:Labels ((List Int))) (a0:ByteArray):evTop ctx (galoisref01_limbs.orc k) L galoisref01_limbs.note Tryz.f207 [.data .str a0] (kR [.o (.int .u64)])=galoisref01_limbs.top k (galoisref01_limbs.s0 L) a0:=by kernel_rfl
theorem galoisref01_limbs.e0 (k:Nat) (L:Labels ((List Int))):galoisref01_limbs.s0 (evLab ctx (galoisref01_limbs.orc k) L galoisref01_limbs.note Tryz.f207 1 (kR [.o (.int .u64)]))=galoisref01_limbs.b0 k (galoisref01_limbs.s1 L):=by kernel_rfl
theorem galoisref01_limbs.e1 (k:Nat) (L:Labels ((List Int))):galoisref01_limbs.s1 (evLab ctx (galoisref01_limbs.orc k) L galoisref01_limbs.note Tryz.f207 1 (kR [.o (.int .u64)]))=galoisref01_limbs.b1 k (galoisref01_limbs.s0 L) (galoisref01_limbs.s1 L):=by kernel_rfl
theorem galoisref01_limbs.run (k:Nat):∀ n,galoisref01_limbs.s0 (evRun ctx (galoisref01_limbs.orc k) galoisref01_limbs.note Tryz.f207 1 (kR [.o (.int .u64)]) n)=galoisref01_limbs.l0 k n∧galoisref01_limbs.s1 (evRun ctx (galoisref01_limbs.orc k) galoisref01_limbs.note Tryz.f207 1 (kR [.o (.int .u64)]) n)=galoisref01_limbs.l1 k n:=by
  intro n
  induction n with
  | zero=>exact ⟨rfl,rfl⟩
  | succ n ih=>exact ⟨(galoisref01_limbs.e0 k _).trans (by simp only [ih]; rfl),(galoisref01_limbs.e1 k _).trans (by simp only [ih]; rfl)⟩
theorem galoisref01_limbs.sound {β:Type} (k:Nat):FunOK Tryz.prog ctx 207 (galoisref01_limbs.C k:Fun β):=soundN (k:=k) (n:=galoisref01_limbs.note) ctx_ok mixed_ok (by kernel_rfl) (by kernel_rfl) (orc_sound (orc_cons (galoisref01_trim.sound k) orc_nil)) fun a0=>(galoisref01_limbs.t k (evRun ctx (galoisref01_limbs.orc k) galoisref01_limbs.note Tryz.f207 1 (kR [.o (.int .u64)]) k) a0).trans (by simp only [galoisref01_limbs.run]; rfl)
theorem galoisref01_below.t (k:Nat) (L:Labels Bool) (a0 a1:List Int):evTop ctx (galoisref01_below.orc k) L galoisref01_below.note Tryz.f208 [.data (.slice (.int .u64)) a0,.data (.slice (.int .u64)) a1] (kR [.d .bool])=galoisref01_below.top k (galoisref01_below.s0 L) a0 a1:=by kernel_rfl
theorem galoisref01_below.e0 (k:Nat) (L:Labels Bool):galoisref01_below.s0 (evLab ctx (galoisref01_below.orc k) L galoisref01_below.note Tryz.f208 2 (kR [.d .bool]))=galoisref01_below.b0 k (galoisref01_below.s0 L):=by kernel_rfl
theorem galoisref01_below.run (k:Nat):∀ n,galoisref01_below.s0 (evRun ctx (galoisref01_below.orc k) galoisref01_below.note Tryz.f208 2 (kR [.d .bool]) n)=galoisref01_below.l0 k n:=run1 rfl (galoisref01_below.e0 k) (fun _=>rfl)
theorem galoisref01_below.sound {β:Type} (k:Nat):FunOK Tryz.prog ctx 208 (galoisref01_below.C k:Fun β):=soundN (k:=k) (n:=galoisref01_below.note) ctx_ok mixed_ok (by kernel_rfl) (by kernel_rfl) (orc_sound (orc_cons (galoisref01_trim.sound k) orc_nil)) fun a0 a1=>(galoisref01_below.t k (evRun ctx (galoisref01_below.orc k) galoisref01_below.note Tryz.f208 2 (kR [.d .bool]) k) a0 a1).trans (by simp only [galoisref01_below.run]; rfl)
theorem galoisref01_DivMod.t (k:Nat) (L:Labels (ByteArray×ByteArray)) (a0 a1:ByteArray):evTop ctx (galoisref01_DivMod.orc k) L galoisref01_DivMod.note Tryz.f171 [.data .str a0,.data .str a1] (kR [.d .str,.d .str])=galoisref01_DivMod.top k (galoisref01_DivMod.s0 L) a0 a1:=by kernel_rfl
theorem galoisref01_DivMod.e0 (k:Nat) (L:Labels (ByteArray×ByteArray)):galoisref01_DivMod.s0 (evLab ctx (galoisref01_DivMod.orc k) L galoisref01_DivMod.note Tryz.f171 2 (kR [.d .str,.d .str]))=galoisref01_DivMod.b0 k (galoisref01_DivMod.s1 L):=by kernel_rfl
theorem galoisref01_DivMod.e1 (k:Nat) (L:Labels (ByteArray×ByteArray)):galoisref01_DivMod.s1 (evLab ctx (galoisref01_DivMod.orc k) L galoisref01_DivMod.note Tryz.f171 2 (kR [.d .str,.d .str]))=galoisref01_DivMod.b1 k (galoisref01_DivMod.s0 L) (galoisref01_DivMod.s2 L):=by kernel_rfl
theorem galoisref01_DivMod.e2 (k:Nat) (L:Labels (ByteArray×ByteArray)):galoisref01_DivMod.s2 (evLab ctx (galoisref01_DivMod.orc k) L galoisref01_DivMod.note Tryz.f171 2 (kR [.d .str,.d .str]))=galoisref01_DivMod.b2 k (galoisref01_DivMod.s1 L) (galoisref01_DivMod.s2 L):=by kernel_rfl
theorem galoisref01_DivMod.run (k:Nat):∀ n,galoisref01_DivMod.s0 (evRun ctx (galoisref01_DivMod.orc k) galoisref01_DivMod.note Tryz.f171 2 (kR [.d .str,.d .str]) n)=galoisref01_DivMod.l0 k n∧galoisref01_DivMod.s1 (evRun ctx (galoisref01_DivMod.orc k) galoisref01_DivMod.note Tryz.f171 2 (kR [.d .str,.d .str]) n)=galoisref01_DivMod.l1 k n∧galoisref01_DivMod.s2 (evRun ctx (galoisref01_DivMod.orc k) galoisref01_DivMod.note Tryz.f171 2 (kR [.d .str,.d .str]) n)=galoisref01_DivMod.l2 k n:=by
  intro n
  induction n with
  | zero=>exact ⟨rfl,rfl,rfl⟩
  | succ n ih=>exact ⟨(galoisref01_DivMod.e0 k _).trans (by simp only [ih]; rfl),(galoisref01_DivMod.e1 k _).trans (by simp only [ih]; rfl),(galoisref01_DivMod.e2 k _).trans (by simp only [ih]; rfl)⟩
theorem galoisref01_DivMod.sound {β:Type} (k:Nat):FunOK Tryz.prog ctx 171 (galoisref01_DivMod.C k:Fun β):=soundN (k:=k) (n:=galoisref01_DivMod.note) ctx_ok mixed_ok (by kernel_rfl) (by kernel_rfl) (orc_sound (orc_cons (galoisref01_limbs.sound k) (orc_cons (galoisref01_below.sound k) (orc_cons (galoisref01_pack.sound k) orc_nil)))) fun a0 a1=>(galoisref01_DivMod.t k (evRun ctx (galoisref01_DivMod.orc k) galoisref01_DivMod.note Tryz.f171 2 (kR [.d .str,.d .str]) k) a0 a1).trans (by simp only [galoisref01_DivMod.run]; rfl)
theorem galoisref01_Gcd.t (k:Nat) (L:Labels ByteArray) (a0 a1:ByteArray):evTop ctx (galoisref01_Gcd.orc k) L galoisref01_Gcd.note Tryz.f117 [.data .str a0,.data .str a1] (kR [.d .str])=galoisref01_Gcd.top k (galoisref01_Gcd.s0 L) a0 a1:=by kernel_rfl
theorem galoisref01_Gcd.e0 (k:Nat) (L:Labels ByteArray):galoisref01_Gcd.s0 (evLab ctx (galoisref01_Gcd.orc k) L galoisref01_Gcd.note Tryz.f117 2 (kR [.d .str]))=galoisref01_Gcd.b0 k (galoisref01_Gcd.s0 L):=by kernel_rfl
theorem galoisref01_Gcd.run (k:Nat):∀ n,galoisref01_Gcd.s0 (evRun ctx (galoisref01_Gcd.orc k) galoisref01_Gcd.note Tryz.f117 2 (kR [.d .str]) n)=galoisref01_Gcd.l0 k n:=run1 rfl (galoisref01_Gcd.e0 k) (fun _=>rfl)
theorem galoisref01_Gcd.sound {β:Type} (k:Nat):FunOK Tryz.prog ctx 117 (galoisref01_Gcd.C k:Fun β):=soundN (k:=k) (n:=galoisref01_Gcd.note) ctx_ok mixed_ok (by kernel_rfl) (by kernel_rfl) (orc_sound (orc_cons (galoisref01_DivMod.sound k) orc_nil)) fun a0 a1=>(galoisref01_Gcd.t k (evRun ctx (galoisref01_Gcd.orc k) galoisref01_Gcd.note Tryz.f117 2 (kR [.d .str]) k) a0 a1).trans (by simp only [galoisref01_Gcd.run]; rfl)
theorem galoisref02_Make.t (L:Labels D0) (a0:Bool) (a1:ByteArray):evTop ctx orcNil L galoisref02_Make.note Tryz.f180 [.data .bool a0,.data .str a1] (kR [.d Y0])=galoisref02_Make a0 a1:=by kernel_rfl
theorem galoisref02_Make.sound {β:Type}:FunOK Tryz.prog ctx 180 (galoisref02_Make.C:Fun β):=soundN (k:=0) (n:=galoisref02_Make.note) ctx_ok mixed_ok (by kernel_rfl) (by kernel_rfl) orcNil_ok fun a0 a1=>(galoisref02_Make.t _ a0 a1).trans rfl
theorem galoisref03_Make.t (k:Nat) (L:Labels D1) (a0 a1:D0):evTop ctx (galoisref03_Make.orc k) L galoisref03_Make.note Tryz.f131 [.data Y0 a0,.data Y0 a1] (kR [.d Y1])=galoisref03_Make k a0 a1:=by kernel_rfl
theorem galoisref03_Make.sound {β:Type} (k:Nat):FunOK Tryz.prog ctx 131 (galoisref03_Make.C k:Fun β):=soundN (k:=k) (n:=galoisref03_Make.note) ctx_ok mixed_ok (by kernel_rfl) (by kernel_rfl) (orc_sound (orc_cons (galoisref01_Gcd.sound k) (orc_cons (galoisref01_DivMod.sound k) (orc_cons galoisref02_Make.sound orc_nil)))) fun a0 a1=>(galoisref03_Make.t k _ a0 a1).trans rfl
theorem galoisref03_Of.t (k:Nat) (L:Labels D1) (a0 a1:Int):evTop ctx (galoisref03_Of.orc k) L galoisref03_Of.note Tryz.f101 [.data (.int .i64) a0,.data (.int .i64) a1] (kR [.d Y1])=galoisref03_Of k a0 a1:=by kernel_rfl
theorem galoisref03_Of.sound {β:Type} (k:Nat):FunOK Tryz.prog ctx 101 (galoisref03_Of.C k:Fun β):=soundN (k:=k) (n:=galoisref03_Of.note) ctx_ok mixed_ok (by kernel_rfl) (by kernel_rfl) (orc_sound (orc_cons (galoisref02_FromInt.sound k) (orc_cons (galoisref03_Make.sound k) orc_nil))) fun a0 a1=>(galoisref03_Of.t k _ a0 a1).trans rfl
theorem natural_Check.t (L:Labels Int) (a0:ByteArray):evTop ctx orcNil L natural_Check.note Tryz.f155 [.data .str a0] (kR [.d (.int .i64)])=natural_Check.top (natural_Check.s0 L) a0:=by kernel_rfl
theorem natural_Check.e0 (L:Labels Int):natural_Check.s0 (evLab ctx orcNil L natural_Check.note Tryz.f155 1 (kR [.d (.int .i64)]))=natural_Check.b0:=by kernel_rfl
theorem natural_Check.run:∀ n,natural_Check.s0 (evRun ctx orcNil natural_Check.note Tryz.f155 1 (kR [.d (.int .i64)]) n)=natural_Check.l0 n:=run1' rfl natural_Check.e0 (fun _=>rfl)
theorem natural_Check.sound {β:Type} (k:Nat):FunOK Tryz.prog ctx 155 (natural_Check.C k:Fun β):=soundN (k:=k) (n:=natural_Check.note) ctx_ok mixed_ok (by kernel_rfl) (by kernel_rfl) orcNil_ok fun a0=>(natural_Check.t (evRun ctx orcNil natural_Check.note Tryz.f155 1 (kR [.d (.int .i64)]) k) a0).trans (by simp only [natural_Check.run]; rfl)
theorem integer_zero.t (L:Labels D0) :evTop ctx orcNil L integer_zero.note Tryz.f196 [] (kR [.d Y0])=integer_zero :=by kernel_rfl
theorem integer_zero.sound {β:Type}:FunOK Tryz.prog ctx 196 (integer_zero.C:Fun β):=soundN (k:=0) (n:=integer_zero.note) ctx_ok mixed_ok (by kernel_rfl) (by kernel_rfl) orcNil_ok ((integer_zero.t _ ).trans rfl)
theorem integer_Check.t (k:Nat) (L:Labels Int) (a0:D0):evTop ctx (integer_Check.orc k) L integer_Check.note Tryz.f154 [.data Y0 a0] (kR [.d (.int .i64)])=integer_Check k a0:=by kernel_rfl
theorem integer_Check.sound {β:Type} (k:Nat):FunOK Tryz.prog ctx 154 (integer_Check.C k:Fun β):=soundN (k:=k) (n:=integer_Check.note) ctx_ok mixed_ok (by kernel_rfl) (by kernel_rfl) (orc_sound (orc_cons (natural_Check.sound k) (orc_cons integer_zero.sound orc_nil))) fun a0=>(integer_Check.t k _ a0).trans rfl
theorem exact_trim.t (L:Labels Nat) (a0:List Int):evTop ctx orcNil L exact_trim.note Tryz.f217 [.data (.slice (.int .u64)) a0] (kR [.w 0])=exact_trim.top (exact_trim.s0 L) a0:=by kernel_rfl
theorem exact_trim.e0 (L:Labels Nat):exact_trim.s0 (evLab ctx orcNil L exact_trim.note Tryz.f217 1 (kR [.w 0]))=exact_trim.b0 (exact_trim.s0 L):=by kernel_rfl
theorem exact_trim.run:∀ n,exact_trim.s0 (evRun ctx orcNil exact_trim.note Tryz.f217 1 (kR [.w 0]) n)=exact_trim.l0 n:=run1 rfl exact_trim.e0 (fun _=>rfl)
theorem exact_trim.sound {β:Type} (k:Nat):FunOK Tryz.prog ctx 217 (exact_trim.C k:Fun β):=soundN (k:=k) (n:=exact_trim.note) ctx_ok mixed_ok (by kernel_rfl) (by kernel_rfl) orcNil_ok fun a0=>(exact_trim.t (evRun ctx orcNil exact_trim.note Tryz.f217 1 (kR [.w 0]) k) a0).trans (by simp only [exact_trim.run]; rfl)
theorem exact_words.t (k:Nat) (L:Labels ((List Int))) (a0:ByteArray):evTop ctx (exact_words.orc k) L exact_words.note Tryz.f197 [.data .str a0] (kR [.o (.int .u64)])=exact_words.top k (exact_words.s0 L) a0:=by kernel_rfl
theorem exact_words.e0 (k:Nat) (L:Labels ((List Int))):exact_words.s0 (evLab ctx (exact_words.orc k) L exact_words.note Tryz.f197 1 (kR [.o (.int .u64)]))=exact_words.b0 k (exact_words.s0 L):=by kernel_rfl
theorem exact_words.run (k:Nat):∀ n,exact_words.s0 (evRun ctx (exact_words.orc k) exact_words.note Tryz.f197 1 (kR [.o (.int .u64)]) n)=exact_words.l0 k n:=run1 rfl (exact_words.e0 k) (fun _=>rfl)
theorem exact_words.sound {β:Type} (k:Nat):FunOK Tryz.prog ctx 197 (exact_words.C k:Fun β):=soundN (k:=k) (n:=exact_words.note) ctx_ok mixed_ok (by kernel_rfl) (by kernel_rfl) (orc_sound (orc_cons (exact_trim.sound k) orc_nil)) fun a0=>(exact_words.t k (evRun ctx (exact_words.orc k) exact_words.note Tryz.f197 1 (kR [.o (.int .u64)]) k) a0).trans (by simp only [exact_words.run]; rfl)
theorem exact_compareWords.t (L:Labels Int) (a0 a1:List Int):evTop ctx orcNil L exact_compareWords.note Tryz.f218 [.data (.slice (.int .u64)) a0,.data (.slice (.int .u64)) a1] (kR [.d (.int .i64)])=exact_compareWords.top (exact_compareWords.s0 L) a0 a1:=by kernel_rfl
theorem exact_compareWords.e0 (L:Labels Int):exact_compareWords.s0 (evLab ctx orcNil L exact_compareWords.note Tryz.f218 2 (kR [.d (.int .i64)]))=exact_compareWords.b0 (exact_compareWords.s0 L):=by kernel_rfl
theorem exact_compareWords.run:∀ n,exact_compareWords.s0 (evRun ctx orcNil exact_compareWords.note Tryz.f218 2 (kR [.d (.int .i64)]) n)=exact_compareWords.l0 n:=run1 rfl exact_compareWords.e0 (fun _=>rfl)
theorem exact_compareWords.sound {β:Type} (k:Nat):FunOK Tryz.prog ctx 218 (exact_compareWords.C k:Fun β):=soundN (k:=k) (n:=exact_compareWords.note) ctx_ok mixed_ok (by kernel_rfl) (by kernel_rfl) orcNil_ok fun a0 a1=>(exact_compareWords.t (evRun ctx orcNil exact_compareWords.note Tryz.f218 2 (kR [.d (.int .i64)]) k) a0 a1).trans (by simp only [exact_compareWords.run]; rfl)
theorem bits_Len64.t (L:Labels Int) (a0:Int):evTop ctx orcNil L bits_Len64.note Tryz.f231 [.data (.int .u64) a0] (kR [.d (.int .i64)])=bits_Len64.top (bits_Len64.s0 L) a0:=by kernel_rfl
theorem bits_Len64.e0 (L:Labels Int):bits_Len64.s0 (evLab ctx orcNil L bits_Len64.note Tryz.f231 1 (kR [.d (.int .i64)]))=bits_Len64.b0:=by kernel_rfl
theorem bits_Len64.run:∀ n,bits_Len64.s0 (evRun ctx orcNil bits_Len64.note Tryz.f231 1 (kR [.d (.int .i64)]) n)=bits_Len64.l0 n:=run1' rfl bits_Len64.e0 (fun _=>rfl)
theorem bits_Len64.sound {β:Type} (k:Nat):FunOK Tryz.prog ctx 231 (bits_Len64.C k:Fun β):=soundN (k:=k) (n:=bits_Len64.note) ctx_ok mixed_ok (by kernel_rfl) (by kernel_rfl) orcNil_ok fun a0=>(bits_Len64.t (evRun ctx orcNil bits_Len64.note Tryz.f231 1 (kR [.d (.int .i64)]) k) a0).trans (by simp only [bits_Len64.run]; rfl)
theorem bits_LeadingZeros64.t (k:Nat) (L:Labels Int) (a0:Int):evTop ctx (bits_LeadingZeros64.orc k) L bits_LeadingZeros64.note Tryz.f220 [.data (.int .u64) a0] (kR [.d (.int .i64)])=bits_LeadingZeros64 k a0:=by kernel_rfl
theorem bits_LeadingZeros64.sound {β:Type} (k:Nat):FunOK Tryz.prog ctx 220 (bits_LeadingZeros64.C k:Fun β):=soundN (k:=k) (n:=bits_LeadingZeros64.note) ctx_ok mixed_ok (by kernel_rfl) (by kernel_rfl) (orc_sound (orc_cons (bits_Len64.sound k) orc_nil)) fun a0=>(bits_LeadingZeros64.t k _ a0).trans rfl
theorem bits_Div64.t (k:Nat) (L:Labels (Int×Int)) (a0 a1 a2:Int):evTop ctx (bits_Div64.orc k) L bits_Div64.note Tryz.f219 [.data (.int .u64) a0,.data (.int .u64) a1,.data (.int .u64) a2] (kR [.d (.int .u64),.d (.int .u64)])=bits_Div64.top k (bits_Div64.s0 L) a0 a1 a2:=by kernel_rfl
theorem bits_Div64.e0 (k:Nat) (L:Labels (Int×Int)):bits_Div64.s0 (evLab ctx (bits_Div64.orc k) L bits_Div64.note Tryz.f219 3 (kR [.d (.int .u64),.d (.int .u64)]))=bits_Div64.b0 k (bits_Div64.s1 L):=by kernel_rfl
theorem bits_Div64.e1 (k:Nat) (L:Labels (Int×Int)):bits_Div64.s1 (evLab ctx (bits_Div64.orc k) L bits_Div64.note Tryz.f219 3 (kR [.d (.int .u64),.d (.int .u64)]))=bits_Div64.b1 k (bits_Div64.s0 L) (bits_Div64.s2 L):=by kernel_rfl
theorem bits_Div64.e2 (k:Nat) (L:Labels (Int×Int)):bits_Div64.s2 (evLab ctx (bits_Div64.orc k) L bits_Div64.note Tryz.f219 3 (kR [.d (.int .u64),.d (.int .u64)]))=bits_Div64.b2 k (bits_Div64.s3 L):=by kernel_rfl
theorem bits_Div64.e3 (k:Nat) (L:Labels (Int×Int)):bits_Div64.s3 (evLab ctx (bits_Div64.orc k) L bits_Div64.note Tryz.f219 3 (kR [.d (.int .u64),.d (.int .u64)]))=bits_Div64.b3 k (bits_Div64.s4 L):=by kernel_rfl
theorem bits_Div64.e4 (k:Nat) (L:Labels (Int×Int)):bits_Div64.s4 (evLab ctx (bits_Div64.orc k) L bits_Div64.note Tryz.f219 3 (kR [.d (.int .u64),.d (.int .u64)]))=bits_Div64.b4 k (bits_Div64.s3 L):=by kernel_rfl
theorem bits_Div64.run (k:Nat):∀ n,bits_Div64.s0 (evRun ctx (bits_Div64.orc k) bits_Div64.note Tryz.f219 3 (kR [.d (.int .u64),.d (.int .u64)]) n)=bits_Div64.l0 k n∧bits_Div64.s1 (evRun ctx (bits_Div64.orc k) bits_Div64.note Tryz.f219 3 (kR [.d (.int .u64),.d (.int .u64)]) n)=bits_Div64.l1 k n∧bits_Div64.s2 (evRun ctx (bits_Div64.orc k) bits_Div64.note Tryz.f219 3 (kR [.d (.int .u64),.d (.int .u64)]) n)=bits_Div64.l2 k n∧bits_Div64.s3 (evRun ctx (bits_Div64.orc k) bits_Div64.note Tryz.f219 3 (kR [.d (.int .u64),.d (.int .u64)]) n)=bits_Div64.l3 k n∧bits_Div64.s4 (evRun ctx (bits_Div64.orc k) bits_Div64.note Tryz.f219 3 (kR [.d (.int .u64),.d (.int .u64)]) n)=bits_Div64.l4 k n:=by
  intro n
  induction n with
  | zero=>exact ⟨rfl,rfl,rfl,rfl,rfl⟩
  | succ n ih=>exact ⟨(bits_Div64.e0 k _).trans (by simp only [ih]; rfl),(bits_Div64.e1 k _).trans (by simp only [ih]; rfl),(bits_Div64.e2 k _).trans (by simp only [ih]; rfl),(bits_Div64.e3 k _).trans (by simp only [ih]; rfl),(bits_Div64.e4 k _).trans (by simp only [ih]; rfl)⟩
theorem bits_Div64.sound {β:Type} (k:Nat):FunOK Tryz.prog ctx 219 (bits_Div64.C k:Fun β):=soundN (k:=k) (n:=bits_Div64.note) ctx_ok mixed_ok (by kernel_rfl) (by kernel_rfl) (orc_sound (orc_cons (bits_LeadingZeros64.sound k) orc_nil)) fun a0 a1 a2=>(bits_Div64.t k (evRun ctx (bits_Div64.orc k) bits_Div64.note Tryz.f219 3 (kR [.d (.int .u64),.d (.int .u64)]) k) a0 a1 a2).trans (by simp only [bits_Div64.run]; rfl)
theorem exact_shiftUp.t (L:Labels ((List Int))) (a0:List Int) (a1:Int):evTop ctx orcNil L exact_shiftUp.note Tryz.f221 [.data (.slice (.int .u64)) a0,.data (.int .i64) a1] (kR [.o (.int .u64)])=exact_shiftUp.top (exact_shiftUp.s0 L) a0 a1:=by kernel_rfl
theorem exact_shiftUp.e0 (L:Labels ((List Int))):exact_shiftUp.s0 (evLab ctx orcNil L exact_shiftUp.note Tryz.f221 2 (kR [.o (.int .u64)]))=exact_shiftUp.b0 (exact_shiftUp.s0 L):=by kernel_rfl
theorem exact_shiftUp.run:∀ n,exact_shiftUp.s0 (evRun ctx orcNil exact_shiftUp.note Tryz.f221 2 (kR [.o (.int .u64)]) n)=exact_shiftUp.l0 n:=run1 rfl exact_shiftUp.e0 (fun _=>rfl)
theorem exact_shiftUp.sound {β:Type} (k:Nat):FunOK Tryz.prog ctx 221 (exact_shiftUp.C k:Fun β):=soundN (k:=k) (n:=exact_shiftUp.note) ctx_ok mixed_ok (by kernel_rfl) (by kernel_rfl) orcNil_ok fun a0 a1=>(exact_shiftUp.t (evRun ctx orcNil exact_shiftUp.note Tryz.f221 2 (kR [.o (.int .u64)]) k) a0 a1).trans (by simp only [exact_shiftUp.run]; rfl)
theorem bits_Mul64.t (L:Labels (Int×Int)) (a0 a1:Int):evTop ctx orcNil L bits_Mul64.note Tryz.f223 [.data (.int .u64) a0,.data (.int .u64) a1] (kR [.d (.int .u64),.d (.int .u64)])=bits_Mul64 a0 a1:=by kernel_rfl
theorem bits_Mul64.sound {β:Type}:FunOK Tryz.prog ctx 223 (bits_Mul64.C:Fun β):=soundN (k:=0) (n:=bits_Mul64.note) ctx_ok mixed_ok (by kernel_rfl) (by kernel_rfl) orcNil_ok fun a0 a1=>(bits_Mul64.t _ a0 a1).trans rfl
theorem exact_step.t (k:Nat) (L:Labels (Int×(List Int))) (a0 a1:List Int):evTop ctx (exact_step.orc k) L exact_step.note Tryz.f222 [.mut (.int .u64) a0,.data (.slice (.int .u64)) a1] (kR [.d (.int .u64),.u 0 (.int .u64)])=exact_step.top k (exact_step.s0 L) a0 a1:=by kernel_rfl
theorem exact_step.e0 (k:Nat) (L:Labels (Int×(List Int))):exact_step.s0 (evLab ctx (exact_step.orc k) L exact_step.note Tryz.f222 2 (kR [.d (.int .u64),.u 0 (.int .u64)]))=exact_step.b0 k (exact_step.s1 L):=by kernel_rfl
theorem exact_step.e1 (k:Nat) (L:Labels (Int×(List Int))):exact_step.s1 (evLab ctx (exact_step.orc k) L exact_step.note Tryz.f222 2 (kR [.d (.int .u64),.u 0 (.int .u64)]))=exact_step.b1 k (exact_step.s2 L) (exact_step.s3 L):=by kernel_rfl
theorem exact_step.e2 (k:Nat) (L:Labels (Int×(List Int))):exact_step.s2 (evLab ctx (exact_step.orc k) L exact_step.note Tryz.f222 2 (kR [.d (.int .u64),.u 0 (.int .u64)]))=exact_step.b2 k (exact_step.s1 L) (exact_step.s3 L):=by kernel_rfl
theorem exact_step.e3 (k:Nat) (L:Labels (Int×(List Int))):exact_step.s3 (evLab ctx (exact_step.orc k) L exact_step.note Tryz.f222 2 (kR [.d (.int .u64),.u 0 (.int .u64)]))=exact_step.b3 k (exact_step.s4 L):=by kernel_rfl
theorem exact_step.e4 (k:Nat) (L:Labels (Int×(List Int))):exact_step.s4 (evLab ctx (exact_step.orc k) L exact_step.note Tryz.f222 2 (kR [.d (.int .u64),.u 0 (.int .u64)]))=exact_step.b4 k (exact_step.s4 L) (exact_step.s5 L):=by kernel_rfl
theorem exact_step.e5 (k:Nat) (L:Labels (Int×(List Int))):exact_step.s5 (evLab ctx (exact_step.orc k) L exact_step.note Tryz.f222 2 (kR [.d (.int .u64),.u 0 (.int .u64)]))=exact_step.b5 k (exact_step.s5 L):=by kernel_rfl
theorem exact_step.run (k:Nat):∀ n,exact_step.s0 (evRun ctx (exact_step.orc k) exact_step.note Tryz.f222 2 (kR [.d (.int .u64),.u 0 (.int .u64)]) n)=exact_step.l0 k n∧exact_step.s1 (evRun ctx (exact_step.orc k) exact_step.note Tryz.f222 2 (kR [.d (.int .u64),.u 0 (.int .u64)]) n)=exact_step.l1 k n∧exact_step.s2 (evRun ctx (exact_step.orc k) exact_step.note Tryz.f222 2 (kR [.d (.int .u64),.u 0 (.int .u64)]) n)=exact_step.l2 k n∧exact_step.s3 (evRun ctx (exact_step.orc k) exact_step.note Tryz.f222 2 (kR [.d (.int .u64),.u 0 (.int .u64)]) n)=exact_step.l3 k n∧exact_step.s4 (evRun ctx (exact_step.orc k) exact_step.note Tryz.f222 2 (kR [.d (.int .u64),.u 0 (.int .u64)]) n)=exact_step.l4 k n∧exact_step.s5 (evRun ctx (exact_step.orc k) exact_step.note Tryz.f222 2 (kR [.d (.int .u64),.u 0 (.int .u64)]) n)=exact_step.l5 k n:=by
  intro n
  induction n with
  | zero=>exact ⟨rfl,rfl,rfl,rfl,rfl,rfl⟩
  | succ n ih=>exact ⟨(exact_step.e0 k _).trans (by simp only [ih]; rfl),(exact_step.e1 k _).trans (by simp only [ih]; rfl),(exact_step.e2 k _).trans (by simp only [ih]; rfl),(exact_step.e3 k _).trans (by simp only [ih]; rfl),(exact_step.e4 k _).trans (by simp only [ih]; rfl),(exact_step.e5 k _).trans (by simp only [ih]; rfl)⟩
theorem exact_step.sound {β:Type} (k:Nat):FunOK Tryz.prog ctx 222 (exact_step.C k:Fun β):=soundN (k:=k) (n:=exact_step.note) ctx_ok mixed_ok (by kernel_rfl) (by kernel_rfl) (orc_sound (orc_cons add64.sound (orc_cons bits_Mul64.sound (orc_cons sub64.sound (orc_cons (bits_Div64.sound k) orc_nil))))) fun a0 a1=>(exact_step.t k (evRun ctx (exact_step.orc k) exact_step.note Tryz.f222 2 (kR [.d (.int .u64),.u 0 (.int .u64)]) k) a0 a1).trans (by simp only [exact_step.run]; rfl)
theorem exact_divide.t (k:Nat) (L:Labels ((List Int)×(List Int))) (a0 a1:List Int):evTop ctx (exact_divide.orc k) L exact_divide.note Tryz.f198 [.data (.slice (.int .u64)) a0,.data (.slice (.int .u64)) a1] (kR [.o (.int .u64),.d (.slice (.int .u64))])=exact_divide.top k (exact_divide.s0 L) (exact_divide.s1 L) a0 a1:=by kernel_rfl
theorem exact_divide.e0 (k:Nat) (L:Labels ((List Int)×(List Int))):exact_divide.s0 (evLab ctx (exact_divide.orc k) L exact_divide.note Tryz.f198 2 (kR [.o (.int .u64),.d (.slice (.int .u64))]))=exact_divide.b0 k (exact_divide.s0 L):=by kernel_rfl
theorem exact_divide.e1 (k:Nat) (L:Labels ((List Int)×(List Int))):exact_divide.s1 (evLab ctx (exact_divide.orc k) L exact_divide.note Tryz.f198 2 (kR [.o (.int .u64),.d (.slice (.int .u64))]))=exact_divide.b1 k (exact_divide.s1 L) (exact_divide.s2 L):=by kernel_rfl
theorem exact_divide.e2 (k:Nat) (L:Labels ((List Int)×(List Int))):exact_divide.s2 (evLab ctx (exact_divide.orc k) L exact_divide.note Tryz.f198 2 (kR [.o (.int .u64),.d (.slice (.int .u64))]))=exact_divide.b2 k (exact_divide.s2 L):=by kernel_rfl
theorem exact_divide.run (k:Nat):∀ n,exact_divide.s0 (evRun ctx (exact_divide.orc k) exact_divide.note Tryz.f198 2 (kR [.o (.int .u64),.d (.slice (.int .u64))]) n)=exact_divide.l0 k n∧exact_divide.s1 (evRun ctx (exact_divide.orc k) exact_divide.note Tryz.f198 2 (kR [.o (.int .u64),.d (.slice (.int .u64))]) n)=exact_divide.l1 k n∧exact_divide.s2 (evRun ctx (exact_divide.orc k) exact_divide.note Tryz.f198 2 (kR [.o (.int .u64),.d (.slice (.int .u64))]) n)=exact_divide.l2 k n:=by
  intro n
  induction n with
  | zero=>exact ⟨rfl,rfl,rfl⟩
  | succ n ih=>exact ⟨(exact_divide.e0 k _).trans (by simp only [ih]; rfl),(exact_divide.e1 k _).trans (by simp only [ih]; rfl),(exact_divide.e2 k _).trans (by simp only [ih]; rfl)⟩
theorem exact_divide.sound {β:Type} (k:Nat):FunOK Tryz.prog ctx 198 (exact_divide.C k:Fun β):=soundN (k:=k) (n:=exact_divide.note) ctx_ok mixed_ok (by kernel_rfl) (by kernel_rfl) (orc_sound (orc_cons (exact_compareWords.sound k) (orc_cons (bits_Div64.sound k) (orc_cons (exact_trim.sound k) (orc_cons (bits_LeadingZeros64.sound k) (orc_cons (exact_shiftUp.sound k) (orc_cons (exact_step.sound k) orc_nil))))))) fun a0 a1=>(exact_divide.t k (evRun ctx (exact_divide.orc k) exact_divide.note Tryz.f198 2 (kR [.o (.int .u64),.d (.slice (.int .u64))]) k) a0 a1).trans (by simp only [exact_divide.run]; rfl)
theorem exact_pack.t (k:Nat) (L:Labels ByteArray) (a0:List Int):evTop ctx (exact_pack.orc k) L exact_pack.note Tryz.f199 [.data (.slice (.int .u64)) a0] (kR [.d .str])=exact_pack.top k (exact_pack.s0 L) a0:=by kernel_rfl
theorem exact_pack.e0 (k:Nat) (L:Labels ByteArray):exact_pack.s0 (evLab ctx (exact_pack.orc k) L exact_pack.note Tryz.f199 1 (kR [.d .str]))=exact_pack.b0 k (exact_pack.s1 L) (exact_pack.s2 L):=by kernel_rfl
theorem exact_pack.e1 (k:Nat) (L:Labels ByteArray):exact_pack.s1 (evLab ctx (exact_pack.orc k) L exact_pack.note Tryz.f199 1 (kR [.d .str]))=exact_pack.b1 k (exact_pack.s0 L) (exact_pack.s1 L):=by kernel_rfl
theorem exact_pack.e2 (k:Nat) (L:Labels ByteArray):exact_pack.s2 (evLab ctx (exact_pack.orc k) L exact_pack.note Tryz.f199 1 (kR [.d .str]))=exact_pack.b2 k (exact_pack.s2 L):=by kernel_rfl
theorem exact_pack.run (k:Nat):∀ n,exact_pack.s0 (evRun ctx (exact_pack.orc k) exact_pack.note Tryz.f199 1 (kR [.d .str]) n)=exact_pack.l0 k n∧exact_pack.s1 (evRun ctx (exact_pack.orc k) exact_pack.note Tryz.f199 1 (kR [.d .str]) n)=exact_pack.l1 k n∧exact_pack.s2 (evRun ctx (exact_pack.orc k) exact_pack.note Tryz.f199 1 (kR [.d .str]) n)=exact_pack.l2 k n:=by
  intro n
  induction n with
  | zero=>exact ⟨rfl,rfl,rfl⟩
  | succ n ih=>exact ⟨(exact_pack.e0 k _).trans (by simp only [ih]; rfl),(exact_pack.e1 k _).trans (by simp only [ih]; rfl),(exact_pack.e2 k _).trans (by simp only [ih]; rfl)⟩
theorem exact_pack.sound {β:Type} (k:Nat):FunOK Tryz.prog ctx 199 (exact_pack.C k:Fun β):=soundN (k:=k) (n:=exact_pack.note) ctx_ok mixed_ok (by kernel_rfl) (by kernel_rfl) (orc_sound (orc_cons (exact_trim.sound k) orc_nil)) fun a0=>(exact_pack.t k (evRun ctx (exact_pack.orc k) exact_pack.note Tryz.f199 1 (kR [.d .str]) k) a0).trans (by simp only [exact_pack.run]; rfl)
theorem exact_NatGcd.t (k:Nat) (L:Labels ByteArray) (a0 a1:ByteArray):evTop ctx (exact_NatGcd.orc k) L exact_NatGcd.note Tryz.f156 [.data .str a0,.data .str a1] (kR [.d .str])=exact_NatGcd.top k (exact_NatGcd.s0 L) a0 a1:=by kernel_rfl
theorem exact_NatGcd.e0 (k:Nat) (L:Labels ByteArray):exact_NatGcd.s0 (evLab ctx (exact_NatGcd.orc k) L exact_NatGcd.note Tryz.f156 2 (kR [.d .str]))=exact_NatGcd.b0 k (exact_NatGcd.s0 L):=by kernel_rfl
theorem exact_NatGcd.run (k:Nat):∀ n,exact_NatGcd.s0 (evRun ctx (exact_NatGcd.orc k) exact_NatGcd.note Tryz.f156 2 (kR [.d .str]) n)=exact_NatGcd.l0 k n:=run1 rfl (exact_NatGcd.e0 k) (fun _=>rfl)
theorem exact_NatGcd.sound {β:Type} (k:Nat):FunOK Tryz.prog ctx 156 (exact_NatGcd.C k:Fun β):=soundN (k:=k) (n:=exact_NatGcd.note) ctx_ok mixed_ok (by kernel_rfl) (by kernel_rfl) (orc_sound (orc_cons (exact_words.sound k) (orc_cons (exact_divide.sound k) (orc_cons (exact_pack.sound k) orc_nil)))) fun a0 a1=>(exact_NatGcd.t k (evRun ctx (exact_NatGcd.orc k) exact_NatGcd.note Tryz.f156 2 (kR [.d .str]) k) a0 a1).trans (by simp only [exact_NatGcd.run]; rfl)
theorem rational_Check.t (k:Nat) (L:Labels Int) (a0:D1):evTop ctx (rational_Check.orc k) L rational_Check.note Tryz.f97 [.data Y1 a0] (kR [.d (.int .i64)])=rational_Check.top k (rational_Check.s0 L) a0:=by kernel_rfl
theorem rational_Check.e0 (k:Nat) (L:Labels Int):rational_Check.s0 (evLab ctx (rational_Check.orc k) L rational_Check.note Tryz.f97 1 (kR [.d (.int .i64)]))=rational_Check.b0 k:=by kernel_rfl
theorem rational_Check.run (k:Nat):∀ n,rational_Check.s0 (evRun ctx (rational_Check.orc k) rational_Check.note Tryz.f97 1 (kR [.d (.int .i64)]) n)=rational_Check.l0 k n:=run1' rfl (rational_Check.e0 k) (fun _=>rfl)
theorem rational_Check.sound {β:Type} (k:Nat):FunOK Tryz.prog ctx 97 (rational_Check.C k:Fun β):=soundN (k:=k) (n:=rational_Check.note) ctx_ok mixed_ok (by kernel_rfl) (by kernel_rfl) (orc_sound (orc_cons (integer_Check.sound k) (orc_cons (natural_Check.sound k) (orc_cons (exact_NatGcd.sound k) orc_nil)))) fun a0=>(rational_Check.t k (evRun ctx (rational_Check.orc k) rational_Check.note Tryz.f97 1 (kR [.d (.int .i64)]) k) a0).trans (by simp only [rational_Check.run]; rfl)
theorem enclosure_grid.t (L:Labels Int) (a0:Int):evTop ctx orcNil L enclosure_grid.note Tryz.f107 [.data (.int .i64) a0] (kR [.d (.int .i64)])=enclosure_grid a0:=by kernel_rfl
theorem enclosure_grid.sound {β:Type}:FunOK Tryz.prog ctx 107 (enclosure_grid.C:Fun β):=soundN (k:=0) (n:=enclosure_grid.note) ctx_ok mixed_ok (by kernel_rfl) (by kernel_rfl) orcNil_ok fun a0=>(enclosure_grid.t _ a0).trans rfl
theorem enclosure_first.t (L:Labels Int) (a0:List Int):evTop ctx orcNil L enclosure_first.note Tryz.f96 [.data (.slice (.int .i64)) a0] (kR [.d (.int .i64)])=enclosure_first.top (enclosure_first.s0 L) a0:=by kernel_rfl
theorem enclosure_first.e0 (L:Labels Int):enclosure_first.s0 (evLab ctx orcNil L enclosure_first.note Tryz.f96 1 (kR [.d (.int .i64)]))=enclosure_first.b0 (enclosure_first.s0 L):=by kernel_rfl
theorem enclosure_first.run:∀ n,enclosure_first.s0 (evRun ctx orcNil enclosure_first.note Tryz.f96 1 (kR [.d (.int .i64)]) n)=enclosure_first.l0 n:=run1 rfl enclosure_first.e0 (fun _=>rfl)
theorem enclosure_first.sound {β:Type} (k:Nat):FunOK Tryz.prog ctx 96 (enclosure_first.C k:Fun β):=soundN (k:=k) (n:=enclosure_first.note) ctx_ok mixed_ok (by kernel_rfl) (by kernel_rfl) orcNil_ok fun a0=>(enclosure_first.t (evRun ctx orcNil enclosure_first.note Tryz.f96 1 (kR [.d (.int .i64)]) k) a0).trans (by simp only [enclosure_first.run]; rfl)
theorem exact_NatOf.t (k:Nat) (L:Labels ByteArray) (a0:Int):evTop ctx (exact_NatOf.orc k) L exact_NatOf.note Tryz.f230 [.data (.int .u64) a0] (kR [.d .str])=exact_NatOf k a0:=by kernel_rfl
theorem exact_NatOf.sound {β:Type} (k:Nat):FunOK Tryz.prog ctx 230 (exact_NatOf.C k:Fun β):=soundN (k:=k) (n:=exact_NatOf.note) ctx_ok mixed_ok (by kernel_rfl) (by kernel_rfl) (orc_sound (orc_cons (exact_pack.sound k) orc_nil)) fun a0=>(exact_NatOf.t k _ a0).trans rfl
theorem exact_IntOf.t (k:Nat) (L:Labels D0) (a0:Int):evTop ctx (exact_IntOf.orc k) L exact_IntOf.note Tryz.f215 [.data (.int .i64) a0] (kR [.d Y0])=exact_IntOf k a0:=by kernel_rfl
theorem exact_IntOf.sound {β:Type} (k:Nat):FunOK Tryz.prog ctx 215 (exact_IntOf.C k:Fun β):=soundN (k:=k) (n:=exact_IntOf.note) ctx_ok mixed_ok (by kernel_rfl) (by kernel_rfl) (orc_sound (orc_cons (exact_NatOf.sound k) orc_nil)) fun a0=>(exact_IntOf.t k _ a0).trans rfl
theorem exact_NatTwo.t (L:Labels ByteArray) (a0:Int):evTop ctx orcNil L exact_NatTwo.note Tryz.f157 [.data (.int .i64) a0] (kR [.d .str])=exact_NatTwo a0:=by kernel_rfl
theorem exact_NatTwo.sound {β:Type}:FunOK Tryz.prog ctx 157 (exact_NatTwo.C:Fun β):=soundN (k:=0) (n:=exact_NatTwo.note) ctx_ok mixed_ok (by kernel_rfl) (by kernel_rfl) orcNil_ok fun a0=>(exact_NatTwo.t _ a0).trans rfl
theorem exact_Two.t (k:Nat) (L:Labels D1) (a0:Int):evTop ctx (exact_Two.orc k) L exact_Two.note Tryz.f204 [.data (.int .i64) a0] (kR [.d Y1])=exact_Two k a0:=by kernel_rfl
theorem exact_Two.sound {β:Type} (k:Nat):FunOK Tryz.prog ctx 204 (exact_Two.C k:Fun β):=soundN (k:=k) (n:=exact_Two.note) ctx_ok mixed_ok (by kernel_rfl) (by kernel_rfl) (orc_sound (orc_cons (exact_IntOf.sound k) (orc_cons exact_NatTwo.sound orc_nil))) fun a0=>(exact_Two.t k _ a0).trans rfl
theorem exact_mulWords.t (k:Nat) (L:Labels ((List Int))) (a0 a1:List Int):evTop ctx (exact_mulWords.orc k) L exact_mulWords.note Tryz.f202 [.data (.slice (.int .u64)) a0,.data (.slice (.int .u64)) a1] (kR [.o (.int .u64)])=exact_mulWords.top k (exact_mulWords.s0 L) a0 a1:=by kernel_rfl
theorem exact_mulWords.e0 (k:Nat) (L:Labels ((List Int))):exact_mulWords.s0 (evLab ctx (exact_mulWords.orc k) L exact_mulWords.note Tryz.f202 2 (kR [.o (.int .u64)]))=exact_mulWords.b0 k (exact_mulWords.s1 L):=by kernel_rfl
theorem exact_mulWords.e1 (k:Nat) (L:Labels ((List Int))):exact_mulWords.s1 (evLab ctx (exact_mulWords.orc k) L exact_mulWords.note Tryz.f202 2 (kR [.o (.int .u64)]))=exact_mulWords.b1 k (exact_mulWords.s0 L) (exact_mulWords.s1 L):=by kernel_rfl
theorem exact_mulWords.run (k:Nat):∀ n,exact_mulWords.s0 (evRun ctx (exact_mulWords.orc k) exact_mulWords.note Tryz.f202 2 (kR [.o (.int .u64)]) n)=exact_mulWords.l0 k n∧exact_mulWords.s1 (evRun ctx (exact_mulWords.orc k) exact_mulWords.note Tryz.f202 2 (kR [.o (.int .u64)]) n)=exact_mulWords.l1 k n:=by
  intro n
  induction n with
  | zero=>exact ⟨rfl,rfl⟩
  | succ n ih=>exact ⟨(exact_mulWords.e0 k _).trans (by simp only [ih]; rfl),(exact_mulWords.e1 k _).trans (by simp only [ih]; rfl)⟩
theorem exact_mulWords.sound {β:Type} (k:Nat):FunOK Tryz.prog ctx 202 (exact_mulWords.C k:Fun β):=soundN (k:=k) (n:=exact_mulWords.note) ctx_ok mixed_ok (by kernel_rfl) (by kernel_rfl) (orc_sound (orc_cons bits_Mul64.sound (orc_cons add64.sound (orc_cons (exact_trim.sound k) orc_nil)))) fun a0 a1=>(exact_mulWords.t k (evRun ctx (exact_mulWords.orc k) exact_mulWords.note Tryz.f202 2 (kR [.o (.int .u64)]) k) a0 a1).trans (by simp only [exact_mulWords.run]; rfl)
theorem exact_NatMul.t (k:Nat) (L:Labels ByteArray) (a0 a1:ByteArray):evTop ctx (exact_NatMul.orc k) L exact_NatMul.note Tryz.f161 [.data .str a0,.data .str a1] (kR [.d .str])=exact_NatMul k a0 a1:=by kernel_rfl
theorem exact_NatMul.sound {β:Type} (k:Nat):FunOK Tryz.prog ctx 161 (exact_NatMul.C k:Fun β):=soundN (k:=k) (n:=exact_NatMul.note) ctx_ok mixed_ok (by kernel_rfl) (by kernel_rfl) (orc_sound (orc_cons (exact_words.sound k) (orc_cons (exact_mulWords.sound k) (orc_cons (exact_pack.sound k) orc_nil)))) fun a0 a1=>(exact_NatMul.t k _ a0 a1).trans rfl
theorem exact_IntMake.t (L:Labels D0) (a0:Bool) (a1:ByteArray):evTop ctx orcNil L exact_IntMake.note Tryz.f160 [.data .bool a0,.data .str a1] (kR [.d Y0])=exact_IntMake a0 a1:=by kernel_rfl
theorem exact_IntMake.sound {β:Type}:FunOK Tryz.prog ctx 160 (exact_IntMake.C:Fun β):=soundN (k:=0) (n:=exact_IntMake.note) ctx_ok mixed_ok (by kernel_rfl) (by kernel_rfl) orcNil_ok fun a0 a1=>(exact_IntMake.t _ a0 a1).trans rfl
theorem exact_IntMul.t (k:Nat) (L:Labels D0) (a0 a1:D0):evTop ctx (exact_IntMul.orc k) L exact_IntMul.note Tryz.f214 [.data Y0 a0,.data Y0 a1] (kR [.d Y0])=exact_IntMul k a0 a1:=by kernel_rfl
theorem exact_IntMul.sound {β:Type} (k:Nat):FunOK Tryz.prog ctx 214 (exact_IntMul.C k:Fun β):=soundN (k:=k) (n:=exact_IntMul.note) ctx_ok mixed_ok (by kernel_rfl) (by kernel_rfl) (orc_sound (orc_cons (exact_NatMul.sound k) (orc_cons exact_IntMake.sound orc_nil))) fun a0 a1=>(exact_IntMul.t k _ a0 a1).trans rfl
theorem exact_Whole.t (L:Labels D1) (a0:D0):evTop ctx orcNil L exact_Whole.note Tryz.f212 [.data Y0 a0] (kR [.d Y1])=exact_Whole a0:=by kernel_rfl
theorem exact_Whole.sound {β:Type}:FunOK Tryz.prog ctx 212 (exact_Whole.C:Fun β):=soundN (k:=0) (n:=exact_Whole.note) ctx_ok mixed_ok (by kernel_rfl) (by kernel_rfl) orcNil_ok fun a0=>(exact_Whole.t _ a0).trans rfl
theorem exact_NatDivMod.t (k:Nat) (L:Labels (ByteArray×ByteArray)) (a0 a1:ByteArray):evTop ctx (exact_NatDivMod.orc k) L exact_NatDivMod.note Tryz.f226 [.data .str a0,.data .str a1] (kR [.d .str,.d .str])=exact_NatDivMod k a0 a1:=by kernel_rfl
theorem exact_NatDivMod.sound {β:Type} (k:Nat):FunOK Tryz.prog ctx 226 (exact_NatDivMod.C k:Fun β):=soundN (k:=k) (n:=exact_NatDivMod.note) ctx_ok mixed_ok (by kernel_rfl) (by kernel_rfl) (orc_sound (orc_cons (exact_words.sound k) (orc_cons (exact_divide.sound k) (orc_cons (exact_pack.sound k) orc_nil)))) fun a0 a1=>(exact_NatDivMod.t k _ a0 a1).trans rfl
theorem exact_Make.t (k:Nat) (L:Labels D1) (a0 a1:D0):evTop ctx (exact_Make.orc k) L exact_Make.note Tryz.f205 [.data Y0 a0,.data Y0 a1] (kR [.d Y1])=exact_Make k a0 a1:=by kernel_rfl
theorem exact_Make.sound {β:Type} (k:Nat):FunOK Tryz.prog ctx 205 (exact_Make.C k:Fun β):=soundN (k:=k) (n:=exact_Make.note) ctx_ok mixed_ok (by kernel_rfl) (by kernel_rfl) (orc_sound (orc_cons (exact_NatGcd.sound k) (orc_cons (exact_NatDivMod.sound k) (orc_cons exact_IntMake.sound orc_nil)))) fun a0 a1=>(exact_Make.t k _ a0 a1).trans rfl
theorem exact_Mul.t (k:Nat) (L:Labels D1) (a0 a1:D1):evTop ctx (exact_Mul.orc k) L exact_Mul.note Tryz.f176 [.data Y1 a0,.data Y1 a1] (kR [.d Y1])=exact_Mul.top k (exact_Mul.s0 L) a0 a1:=by kernel_rfl
theorem exact_Mul.e0 (k:Nat) (L:Labels D1):exact_Mul.s0 (evLab ctx (exact_Mul.orc k) L exact_Mul.note Tryz.f176 2 (kR [.d Y1]))=exact_Mul.b0 k:=by kernel_rfl
theorem exact_Mul.run (k:Nat):∀ n,exact_Mul.s0 (evRun ctx (exact_Mul.orc k) exact_Mul.note Tryz.f176 2 (kR [.d Y1]) n)=exact_Mul.l0 k n:=run1' rfl (exact_Mul.e0 k) (fun _=>rfl)
theorem exact_Mul.sound {β:Type} (k:Nat):FunOK Tryz.prog ctx 176 (exact_Mul.C k:Fun β):=soundN (k:=k) (n:=exact_Mul.note) ctx_ok mixed_ok (by kernel_rfl) (by kernel_rfl) (orc_sound (orc_cons (exact_IntMul.sound k) (orc_cons exact_Whole.sound (orc_cons (exact_NatMul.sound k) (orc_cons (exact_Make.sound k) orc_nil))))) fun a0 a1=>(exact_Mul.t k (evRun ctx (exact_Mul.orc k) exact_Mul.note Tryz.f176 2 (kR [.d Y1]) k) a0 a1).trans (by simp only [exact_Mul.run]; rfl)
theorem exact_NatAdd.t (k:Nat) (L:Labels ByteArray) (a0 a1:ByteArray):evTop ctx (exact_NatAdd.orc k) L exact_NatAdd.note Tryz.f228 [.data .str a0,.data .str a1] (kR [.d .str])=exact_NatAdd.top k (exact_NatAdd.s0 L) a0 a1:=by kernel_rfl
theorem exact_NatAdd.e0 (k:Nat) (L:Labels ByteArray):exact_NatAdd.s0 (evLab ctx (exact_NatAdd.orc k) L exact_NatAdd.note Tryz.f228 2 (kR [.d .str]))=exact_NatAdd.b0 k (exact_NatAdd.s1 L):=by kernel_rfl
theorem exact_NatAdd.e1 (k:Nat) (L:Labels ByteArray):exact_NatAdd.s1 (evLab ctx (exact_NatAdd.orc k) L exact_NatAdd.note Tryz.f228 2 (kR [.d .str]))=exact_NatAdd.b1 k (exact_NatAdd.s1 L):=by kernel_rfl
theorem exact_NatAdd.run (k:Nat):∀ n,exact_NatAdd.s0 (evRun ctx (exact_NatAdd.orc k) exact_NatAdd.note Tryz.f228 2 (kR [.d .str]) n)=exact_NatAdd.l0 k n∧exact_NatAdd.s1 (evRun ctx (exact_NatAdd.orc k) exact_NatAdd.note Tryz.f228 2 (kR [.d .str]) n)=exact_NatAdd.l1 k n:=by
  intro n
  induction n with
  | zero=>exact ⟨rfl,rfl⟩
  | succ n ih=>exact ⟨(exact_NatAdd.e0 k _).trans (by simp only [ih]; rfl),(exact_NatAdd.e1 k _).trans (by simp only [ih]; rfl)⟩
theorem exact_NatAdd.sound {β:Type} (k:Nat):FunOK Tryz.prog ctx 228 (exact_NatAdd.C k:Fun β):=soundN (k:=k) (n:=exact_NatAdd.note) ctx_ok mixed_ok (by kernel_rfl) (by kernel_rfl) (orc_sound (orc_cons (exact_words.sound k) (orc_cons add64.sound (orc_cons (exact_pack.sound k) orc_nil)))) fun a0 a1=>(exact_NatAdd.t k (evRun ctx (exact_NatAdd.orc k) exact_NatAdd.note Tryz.f228 2 (kR [.d .str]) k) a0 a1).trans (by simp only [exact_NatAdd.run]; rfl)
theorem exact_NatSub.t (k:Nat) (L:Labels ByteArray) (a0 a1:ByteArray):evTop ctx (exact_NatSub.orc k) L exact_NatSub.note Tryz.f229 [.data .str a0,.data .str a1] (kR [.d .str])=exact_NatSub.top k (exact_NatSub.s0 L) a0 a1:=by kernel_rfl
theorem exact_NatSub.e0 (k:Nat) (L:Labels ByteArray):exact_NatSub.s0 (evLab ctx (exact_NatSub.orc k) L exact_NatSub.note Tryz.f229 2 (kR [.d .str]))=exact_NatSub.b0 k (exact_NatSub.s0 L):=by kernel_rfl
theorem exact_NatSub.run (k:Nat):∀ n,exact_NatSub.s0 (evRun ctx (exact_NatSub.orc k) exact_NatSub.note Tryz.f229 2 (kR [.d .str]) n)=exact_NatSub.l0 k n:=run1 rfl (exact_NatSub.e0 k) (fun _=>rfl)
theorem exact_NatSub.sound {β:Type} (k:Nat):FunOK Tryz.prog ctx 229 (exact_NatSub.C k:Fun β):=soundN (k:=k) (n:=exact_NatSub.note) ctx_ok mixed_ok (by kernel_rfl) (by kernel_rfl) (orc_sound (orc_cons (exact_words.sound k) (orc_cons sub64.sound (orc_cons (exact_pack.sound k) orc_nil)))) fun a0 a1=>(exact_NatSub.t k (evRun ctx (exact_NatSub.orc k) exact_NatSub.note Tryz.f229 2 (kR [.d .str]) k) a0 a1).trans (by simp only [exact_NatSub.run]; rfl)
theorem exact_IntDivMod.t (k:Nat) (L:Labels (D0×D0)) (a0 a1:D0):evTop ctx (exact_IntDivMod.orc k) L exact_IntDivMod.note Tryz.f225 [.data Y0 a0,.data Y0 a1] (kR [.d Y0,.d Y0])=exact_IntDivMod.top k (exact_IntDivMod.s0 L) a0 a1:=by kernel_rfl
theorem exact_IntDivMod.e0 (k:Nat) (L:Labels (D0×D0)):exact_IntDivMod.s0 (evLab ctx (exact_IntDivMod.orc k) L exact_IntDivMod.note Tryz.f225 2 (kR [.d Y0,.d Y0]))=exact_IntDivMod.b0 k:=by kernel_rfl
theorem exact_IntDivMod.run (k:Nat):∀ n,exact_IntDivMod.s0 (evRun ctx (exact_IntDivMod.orc k) exact_IntDivMod.note Tryz.f225 2 (kR [.d Y0,.d Y0]) n)=exact_IntDivMod.l0 k n:=run1' rfl (exact_IntDivMod.e0 k) (fun _=>rfl)
theorem exact_IntDivMod.sound {β:Type} (k:Nat):FunOK Tryz.prog ctx 225 (exact_IntDivMod.C k:Fun β):=soundN (k:=k) (n:=exact_IntDivMod.note) ctx_ok mixed_ok (by kernel_rfl) (by kernel_rfl) (orc_sound (orc_cons (exact_NatDivMod.sound k) (orc_cons (exact_NatOf.sound k) (orc_cons (exact_NatAdd.sound k) (orc_cons (exact_NatSub.sound k) (orc_cons exact_IntMake.sound orc_nil)))))) fun a0 a1=>(exact_IntDivMod.t k (evRun ctx (exact_IntDivMod.orc k) exact_IntDivMod.note Tryz.f225 2 (kR [.d Y0,.d Y0]) k) a0 a1).trans (by simp only [exact_IntDivMod.run]; rfl)
theorem exact_Floor.t (k:Nat) (L:Labels D0) (a0:D1):evTop ctx (exact_Floor.orc k) L exact_Floor.note Tryz.f203 [.data Y1 a0] (kR [.d Y0])=exact_Floor k a0:=by kernel_rfl
theorem exact_Floor.sound {β:Type} (k:Nat):FunOK Tryz.prog ctx 203 (exact_Floor.C k:Fun β):=soundN (k:=k) (n:=exact_Floor.note) ctx_ok mixed_ok (by kernel_rfl) (by kernel_rfl) (orc_sound (orc_cons (exact_IntDivMod.sound k) orc_nil)) fun a0=>(exact_Floor.t k _ a0).trans rfl
theorem ival_down.t (k:Nat) (L:Labels D1) (a0:D1) (a1:Int):evTop ctx (ival_down.orc k) L ival_down.note Tryz.f167 [.data Y1 a0,.data (.int .i64) a1] (kR [.d Y1])=ival_down k a0 a1:=by kernel_rfl
theorem ival_down.sound {β:Type} (k:Nat):FunOK Tryz.prog ctx 167 (ival_down.C k:Fun β):=soundN (k:=k) (n:=ival_down.note) ctx_ok mixed_ok (by kernel_rfl) (by kernel_rfl) (orc_sound (orc_cons (exact_Two.sound k) (orc_cons (exact_Mul.sound k) (orc_cons (exact_Floor.sound k) (orc_cons exact_NatTwo.sound (orc_cons (exact_Make.sound k) orc_nil)))))) fun a0 a1=>(ival_down.t k _ a0 a1).trans rfl
theorem exact_IntNeg.t (L:Labels D0) (a0:D0):evTop ctx exact_IntNeg.orc L exact_IntNeg.note Tryz.f206 [.data Y0 a0] (kR [.d Y0])=exact_IntNeg a0:=by kernel_rfl
theorem exact_IntNeg.sound {β:Type}:FunOK Tryz.prog ctx 206 (exact_IntNeg.C:Fun β):=soundN (k:=0) (n:=exact_IntNeg.note) ctx_ok mixed_ok (by kernel_rfl) (by kernel_rfl) (orc_sound (orc_cons exact_IntMake.sound orc_nil)) fun a0=>(exact_IntNeg.t _ a0).trans rfl
theorem exact_Neg.t (L:Labels D1) (a0:D1):evTop ctx exact_Neg.orc L exact_Neg.note Tryz.f168 [.data Y1 a0] (kR [.d Y1])=exact_Neg a0:=by kernel_rfl
theorem exact_Neg.sound {β:Type}:FunOK Tryz.prog ctx 168 (exact_Neg.C:Fun β):=soundN (k:=0) (n:=exact_Neg.note) ctx_ok mixed_ok (by kernel_rfl) (by kernel_rfl) (orc_sound (orc_cons exact_IntNeg.sound orc_nil)) fun a0=>(exact_Neg.t _ a0).trans rfl
theorem ival_Around.t (k:Nat) (L:Labels D2) (a0:D1) (a1:Int):evTop ctx (ival_Around.orc k) L ival_Around.note Tryz.f112 [.data Y1 a0,.data (.int .i64) a1] (kR [.d Y2])=ival_Around k a0 a1:=by kernel_rfl
theorem ival_Around.sound {β:Type} (k:Nat):FunOK Tryz.prog ctx 112 (ival_Around.C k:Fun β):=soundN (k:=k) (n:=ival_Around.note) ctx_ok mixed_ok (by kernel_rfl) (by kernel_rfl) (orc_sound (orc_cons (ival_down.sound k) (orc_cons exact_Neg.sound orc_nil))) fun a0 a1=>(ival_Around.t k _ a0 a1).trans rfl
theorem exact_Large.t (L:Labels Bool) (a0:D1):evTop ctx orcNil L exact_Large.note Tryz.f188 [.data Y1 a0] (kR [.d .bool])=exact_Large a0:=by kernel_rfl
theorem exact_Large.sound {β:Type}:FunOK Tryz.prog ctx 188 (exact_Large.C:Fun β):=soundN (k:=0) (n:=exact_Large.note) ctx_ok mixed_ok (by kernel_rfl) (by kernel_rfl) orcNil_ok fun a0=>(exact_Large.t _ a0).trans rfl
theorem ival_Large.t (L:Labels Bool) (a0:D2):evTop ctx ival_Large.orc L ival_Large.note Tryz.f164 [.data Y2 a0] (kR [.d .bool])=ival_Large a0:=by kernel_rfl
theorem ival_Large.sound {β:Type}:FunOK Tryz.prog ctx 164 (ival_Large.C:Fun β):=soundN (k:=0) (n:=ival_Large.note) ctx_ok mixed_ok (by kernel_rfl) (by kernel_rfl) (orc_sound (orc_cons exact_Large.sound orc_nil)) fun a0=>(ival_Large.t _ a0).trans rfl
theorem enclosure_interval.t (L:Labels (D2×Int)) (a0:D2):evTop ctx enclosure_interval.orc L enclosure_interval.note Tryz.f108 [.data Y2 a0] (kR [.d Y2,.d (.int .i64)])=enclosure_interval a0:=by kernel_rfl
theorem enclosure_interval.sound {β:Type}:FunOK Tryz.prog ctx 108 (enclosure_interval.C:Fun β):=soundN (k:=0) (n:=enclosure_interval.note) ctx_ok mixed_ok (by kernel_rfl) (by kernel_rfl) (orc_sound (orc_cons ival_Large.sound orc_nil)) fun a0=>(enclosure_interval.t _ a0).trans rfl
theorem enclosure_Around.t (k:Nat) (L:Labels (D2×Int)) (a0:D1) (a1:Int):evTop ctx (enclosure_Around.orc k) L enclosure_Around.note Tryz.f27 [.data Y1 a0,.data (.int .i64) a1] (kR [.d Y2,.d (.int .i64)])=enclosure_Around k a0 a1:=by kernel_rfl
theorem enclosure_Around.sound {β:Type} (k:Nat):FunOK Tryz.prog ctx 27 (enclosure_Around.C k:Fun β):=soundN (k:=k) (n:=enclosure_Around.note) ctx_ok mixed_ok (by kernel_rfl) (by kernel_rfl) (orc_sound (orc_cons (rational_Check.sound k) (orc_cons enclosure_grid.sound (orc_cons (enclosure_first.sound k) (orc_cons (ival_Around.sound k) (orc_cons enclosure_interval.sound orc_nil)))))) fun a0 a1=>(enclosure_Around.t k _ a0 a1).trans rfl
theorem galoisref19_Make.t (L:Labels D2) (a0 a1:D1):evTop ctx orcNil L galoisref19_Make.note Tryz.f118 [.data Y1 a0,.data Y1 a1] (kR [.d Y2])=galoisref19_Make a0 a1:=by kernel_rfl
theorem galoisref19_Make.sound {β:Type}:FunOK Tryz.prog ctx 118 (galoisref19_Make.C:Fun β):=soundN (k:=0) (n:=galoisref19_Make.note) ctx_ok mixed_ok (by kernel_rfl) (by kernel_rfl) orcNil_ok fun a0 a1=>(galoisref19_Make.t _ a0 a1).trans rfl
theorem galoislaw19_make2.t (k:Nat) (L:Labels D2) (a0 a1 a2 a3:Int):evTop ctx (galoislaw19_make2.orc k) L galoislaw19_make2.note Tryz.f102 [.data (.int .i64) a0,.data (.int .i64) a1,.data (.int .i64) a2,.data (.int .i64) a3] (kR [.d Y2])=galoislaw19_make2 k a0 a1 a2 a3:=by kernel_rfl
theorem galoislaw19_make2.sound {β:Type} (k:Nat):FunOK Tryz.prog ctx 102 (galoislaw19_make2.C k:Fun β):=soundN (k:=k) (n:=galoislaw19_make2.note) ctx_ok mixed_ok (by kernel_rfl) (by kernel_rfl) (orc_sound (orc_cons (galoisref03_Of.sound k) (orc_cons galoisref19_Make.sound orc_nil))) fun a0 a1 a2 a3=>(galoislaw19_make2.t k _ a0 a1 a2 a3).trans rfl
theorem bits_Len8.t (L:Labels Int) (a0:Int):evTop ctx orcNil L bits_Len8.note Tryz.f200 [.data (.int .u8) a0] (kR [.d (.int .i64)])=bits_Len8 a0:=by kernel_rfl
theorem bits_Len8.sound {β:Type}:FunOK Tryz.prog ctx 200 (bits_Len8.C:Fun β):=soundN (k:=0) (n:=bits_Len8.note) ctx_ok mixed_ok (by kernel_rfl) (by kernel_rfl) orcNil_ok fun a0=>(bits_Len8.t _ a0).trans rfl
theorem exact_NatBits.t (L:Labels Int) (a0:ByteArray):evTop ctx exact_NatBits.orc L exact_NatBits.note Tryz.f158 [.data .str a0] (kR [.d (.int .i64)])=exact_NatBits a0:=by kernel_rfl
theorem exact_NatBits.sound {β:Type}:FunOK Tryz.prog ctx 158 (exact_NatBits.C:Fun β):=soundN (k:=0) (n:=exact_NatBits.note) ctx_ok mixed_ok (by kernel_rfl) (by kernel_rfl) (orc_sound (orc_cons bits_Len8.sound orc_nil)) fun a0=>(exact_NatBits.t _ a0).trans rfl
theorem enclosure_dyadic.t (L:Labels Bool) (a0:D1):evTop ctx enclosure_dyadic.orc L enclosure_dyadic.note Tryz.f98 [.data Y1 a0] (kR [.d .bool])=enclosure_dyadic a0:=by kernel_rfl
theorem enclosure_dyadic.sound {β:Type}:FunOK Tryz.prog ctx 98 (enclosure_dyadic.C:Fun β):=soundN (k:=0) (n:=enclosure_dyadic.note) ctx_ok mixed_ok (by kernel_rfl) (by kernel_rfl) (orc_sound (orc_cons exact_NatBits.sound (orc_cons exact_NatTwo.sound orc_nil))) fun a0=>(enclosure_dyadic.t _ a0).trans rfl
theorem exact_NatCmp.t (L:Labels Int) (a0 a1:ByteArray):evTop ctx orcNil L exact_NatCmp.note Tryz.f201 [.data .str a0,.data .str a1] (kR [.d (.int .i64)])=exact_NatCmp.top (exact_NatCmp.s0 L) a0 a1:=by kernel_rfl
theorem exact_NatCmp.e0 (L:Labels Int):exact_NatCmp.s0 (evLab ctx orcNil L exact_NatCmp.note Tryz.f201 2 (kR [.d (.int .i64)]))=exact_NatCmp.b0:=by kernel_rfl
theorem exact_NatCmp.run:∀ n,exact_NatCmp.s0 (evRun ctx orcNil exact_NatCmp.note Tryz.f201 2 (kR [.d (.int .i64)]) n)=exact_NatCmp.l0 n:=run1' rfl exact_NatCmp.e0 (fun _=>rfl)
theorem exact_NatCmp.sound {β:Type} (k:Nat):FunOK Tryz.prog ctx 201 (exact_NatCmp.C k:Fun β):=soundN (k:=k) (n:=exact_NatCmp.note) ctx_ok mixed_ok (by kernel_rfl) (by kernel_rfl) orcNil_ok fun a0 a1=>(exact_NatCmp.t (evRun ctx orcNil exact_NatCmp.note Tryz.f201 2 (kR [.d (.int .i64)]) k) a0 a1).trans (by simp only [exact_NatCmp.run]; rfl)
theorem exact_IntCmp.t (k:Nat) (L:Labels Int) (a0 a1:D0):evTop ctx (exact_IntCmp.orc k) L exact_IntCmp.note Tryz.f159 [.data Y0 a0,.data Y0 a1] (kR [.d (.int .i64)])=exact_IntCmp k a0 a1:=by kernel_rfl
theorem exact_IntCmp.sound {β:Type} (k:Nat):FunOK Tryz.prog ctx 159 (exact_IntCmp.C k:Fun β):=soundN (k:=k) (n:=exact_IntCmp.note) ctx_ok mixed_ok (by kernel_rfl) (by kernel_rfl) (orc_sound (orc_cons (exact_NatCmp.sound k) orc_nil)) fun a0 a1=>(exact_IntCmp.t k _ a0 a1).trans rfl
theorem exact_Cmp.t (k:Nat) (L:Labels Int) (a0 a1:D1):evTop ctx (exact_Cmp.orc k) L exact_Cmp.note Tryz.f99 [.data Y1 a0,.data Y1 a1] (kR [.d (.int .i64)])=exact_Cmp k a0 a1:=by kernel_rfl
theorem exact_Cmp.sound {β:Type} (k:Nat):FunOK Tryz.prog ctx 99 (exact_Cmp.C k:Fun β):=soundN (k:=k) (n:=exact_Cmp.note) ctx_ok mixed_ok (by kernel_rfl) (by kernel_rfl) (orc_sound (orc_cons (exact_IntCmp.sound k) (orc_cons (exact_NatMul.sound k) (orc_cons exact_IntMake.sound orc_nil)))) fun a0 a1=>(exact_Cmp.t k _ a0 a1).trans rfl
theorem enclosure_Check.t (k:Nat) (L:Labels Int) (a0:D2):evTop ctx (enclosure_Check.orc k) L enclosure_Check.note Tryz.f13 [.data Y2 a0] (kR [.d (.int .i64)])=enclosure_Check.top k (enclosure_Check.s0 L) a0:=by kernel_rfl
theorem enclosure_Check.e0 (k:Nat) (L:Labels Int):enclosure_Check.s0 (evLab ctx (enclosure_Check.orc k) L enclosure_Check.note Tryz.f13 1 (kR [.d (.int .i64)]))=enclosure_Check.b0 k:=by kernel_rfl
theorem enclosure_Check.run (k:Nat):∀ n,enclosure_Check.s0 (evRun ctx (enclosure_Check.orc k) enclosure_Check.note Tryz.f13 1 (kR [.d (.int .i64)]) n)=enclosure_Check.l0 k n:=run1' rfl (enclosure_Check.e0 k) (fun _=>rfl)
theorem enclosure_Check.sound {β:Type} (k:Nat):FunOK Tryz.prog ctx 13 (enclosure_Check.C k:Fun β):=soundN (k:=k) (n:=enclosure_Check.note) ctx_ok mixed_ok (by kernel_rfl) (by kernel_rfl) (orc_sound (orc_cons (rational_Check.sound k) (orc_cons (enclosure_first.sound k) (orc_cons enclosure_dyadic.sound (orc_cons (exact_Cmp.sound k) orc_nil))))) fun a0=>(enclosure_Check.t k (evRun ctx (enclosure_Check.orc k) enclosure_Check.note Tryz.f13 1 (kR [.d (.int .i64)]) k) a0).trans (by simp only [enclosure_Check.run]; rfl)
theorem ival_Point.t (L:Labels D2) (a0:D1):evTop ctx orcNil L ival_Point.note Tryz.f177 [.data Y1 a0] (kR [.d Y2])=ival_Point a0:=by kernel_rfl
theorem ival_Point.sound {β:Type}:FunOK Tryz.prog ctx 177 (ival_Point.C:Fun β):=soundN (k:=0) (n:=ival_Point.note) ctx_ok mixed_ok (by kernel_rfl) (by kernel_rfl) orcNil_ok fun a0=>(ival_Point.t _ a0).trans rfl
theorem ival_less.t (k:Nat) (L:Labels Bool) (a0 a1:D1):evTop ctx (ival_less.orc k) L ival_less.note Tryz.f193 [.data Y1 a0,.data Y1 a1] (kR [.d .bool])=ival_less k a0 a1:=by kernel_rfl
theorem ival_less.sound {β:Type} (k:Nat):FunOK Tryz.prog ctx 193 (ival_less.C k:Fun β):=soundN (k:=k) (n:=ival_less.note) ctx_ok mixed_ok (by kernel_rfl) (by kernel_rfl) (orc_sound (orc_cons (exact_Cmp.sound k) orc_nil)) fun a0 a1=>(ival_less.t k _ a0 a1).trans rfl
theorem ival_Hull.t (k:Nat) (L:Labels D2) (a0 a1:D2):evTop ctx (ival_Hull.orc k) L ival_Hull.note Tryz.f147 [.data Y2 a0,.data Y2 a1] (kR [.d Y2])=ival_Hull.top k (ival_Hull.s0 L) a0 a1:=by kernel_rfl
theorem ival_Hull.e0 (k:Nat) (L:Labels D2):ival_Hull.s0 (evLab ctx (ival_Hull.orc k) L ival_Hull.note Tryz.f147 2 (kR [.d Y2]))=ival_Hull.b0 k:=by kernel_rfl
theorem ival_Hull.run (k:Nat):∀ n,ival_Hull.s0 (evRun ctx (ival_Hull.orc k) ival_Hull.note Tryz.f147 2 (kR [.d Y2]) n)=ival_Hull.l0 k n:=run1' rfl (ival_Hull.e0 k) (fun _=>rfl)
theorem ival_Hull.sound {β:Type} (k:Nat):FunOK Tryz.prog ctx 147 (ival_Hull.C k:Fun β):=soundN (k:=k) (n:=ival_Hull.note) ctx_ok mixed_ok (by kernel_rfl) (by kernel_rfl) (orc_sound (orc_cons (ival_less.sound k) orc_nil)) fun a0 a1=>(ival_Hull.t k (evRun ctx (ival_Hull.orc k) ival_Hull.note Tryz.f147 2 (kR [.d Y2]) k) a0 a1).trans (by simp only [ival_Hull.run]; rfl)
theorem ival_Mul.t (k:Nat) (L:Labels D2) (a0 a1:D2):evTop ctx (ival_Mul.orc k) L ival_Mul.note Tryz.f123 [.data Y2 a0,.data Y2 a1] (kR [.d Y2])=ival_Mul.top k (ival_Mul.s0 L) a0 a1:=by kernel_rfl
theorem ival_Mul.e0 (k:Nat) (L:Labels D2):ival_Mul.s0 (evLab ctx (ival_Mul.orc k) L ival_Mul.note Tryz.f123 2 (kR [.d Y2]))=ival_Mul.b0 k (ival_Mul.s0 L):=by kernel_rfl
theorem ival_Mul.run (k:Nat):∀ n,ival_Mul.s0 (evRun ctx (ival_Mul.orc k) ival_Mul.note Tryz.f123 2 (kR [.d Y2]) n)=ival_Mul.l0 k n:=run1 rfl (ival_Mul.e0 k) (fun _=>rfl)
theorem ival_Mul.sound {β:Type} (k:Nat):FunOK Tryz.prog ctx 123 (ival_Mul.C k:Fun β):=soundN (k:=k) (n:=ival_Mul.note) ctx_ok mixed_ok (by kernel_rfl) (by kernel_rfl) (orc_sound (orc_cons (exact_Mul.sound k) (orc_cons ival_Point.sound (orc_cons (ival_Hull.sound k) orc_nil)))) fun a0 a1=>(ival_Mul.t k (evRun ctx (ival_Mul.orc k) ival_Mul.note Tryz.f123 2 (kR [.d Y2]) k) a0 a1).trans (by simp only [ival_Mul.run]; rfl)
theorem enclosure_Mul.t (k:Nat) (L:Labels (D2×Int)) (a0 a1:D2):evTop ctx (enclosure_Mul.orc k) L enclosure_Mul.note Tryz.f36 [.data Y2 a0,.data Y2 a1] (kR [.d Y2,.d (.int .i64)])=enclosure_Mul k a0 a1:=by kernel_rfl
theorem enclosure_Mul.sound {β:Type} (k:Nat):FunOK Tryz.prog ctx 36 (enclosure_Mul.C k:Fun β):=soundN (k:=k) (n:=enclosure_Mul.note) ctx_ok mixed_ok (by kernel_rfl) (by kernel_rfl) (orc_sound (orc_cons (enclosure_Check.sound k) (orc_cons (enclosure_first.sound k) (orc_cons (ival_Mul.sound k) (orc_cons enclosure_interval.sound orc_nil))))) fun a0 a1=>(enclosure_Mul.t k _ a0 a1).trans rfl
end Go.Proofs.YthghchjbomlpfaaGreat.Ev

namespace Go.Proofs.YthghchjbomlpfaaGreat.Ev
set_option linter.unusedVariables false
set_option maxRecDepth 100000
theorem exact_Int.t (k:Nat) (L:Labels D1) (a0:Int):evTop ctx (exact_Int.orc k) L exact_Int.note Tryz.f178 [.data (.int .i64) a0] (kR [.d Y1])=exact_Int k a0:=by kernel_rfl
theorem exact_Int.sound {β:Type} (k:Nat):FunOK Tryz.prog ctx 178 (exact_Int.C k:Fun β):=soundN (k:=k) (n:=exact_Int.note) ctx_ok mixed_ok (by kernel_rfl) (by kernel_rfl) (orc_sound (orc_cons (exact_IntOf.sound k) (orc_cons exact_Whole.sound orc_nil))) fun a0=>(exact_Int.t k _ a0).trans rfl
theorem ival_Contains.t (k:Nat) (L:Labels Bool) (a0:D2) (a1:D1):evTop ctx (ival_Contains.orc k) L ival_Contains.note Tryz.f151 [.data Y2 a0,.data Y1 a1] (kR [.d .bool])=ival_Contains k a0 a1:=by kernel_rfl
theorem ival_Contains.sound {β:Type} (k:Nat):FunOK Tryz.prog ctx 151 (ival_Contains.C k:Fun β):=soundN (k:=k) (n:=ival_Contains.note) ctx_ok mixed_ok (by kernel_rfl) (by kernel_rfl) (orc_sound (orc_cons (ival_less.sound k) orc_nil)) fun a0 a1=>(ival_Contains.t k _ a0 a1).trans rfl
theorem ival_Square.t (k:Nat) (L:Labels D2) (a0:D2):evTop ctx (ival_Square.orc k) L ival_Square.note Tryz.f124 [.data Y2 a0] (kR [.d Y2])=ival_Square k a0:=by kernel_rfl
theorem ival_Square.sound {β:Type} (k:Nat):FunOK Tryz.prog ctx 124 (ival_Square.C k:Fun β):=soundN (k:=k) (n:=ival_Square.note) ctx_ok mixed_ok (by kernel_rfl) (by kernel_rfl) (orc_sound (orc_cons (exact_Mul.sound k) (orc_cons ival_Point.sound (orc_cons (ival_Hull.sound k) (orc_cons (exact_Int.sound k) (orc_cons (ival_Contains.sound k) orc_nil)))))) fun a0=>(ival_Square.t k _ a0).trans rfl
theorem enclosure_Square.t (k:Nat) (L:Labels (D2×Int)) (a0:D2):evTop ctx (enclosure_Square.orc k) L enclosure_Square.note Tryz.f37 [.data Y2 a0] (kR [.d Y2,.d (.int .i64)])=enclosure_Square k a0:=by kernel_rfl
theorem enclosure_Square.sound {β:Type} (k:Nat):FunOK Tryz.prog ctx 37 (enclosure_Square.C k:Fun β):=soundN (k:=k) (n:=enclosure_Square.note) ctx_ok mixed_ok (by kernel_rfl) (by kernel_rfl) (orc_sound (orc_cons (enclosure_Check.sound k) (orc_cons (enclosure_first.sound k) (orc_cons (ival_Square.sound k) (orc_cons enclosure_interval.sound orc_nil))))) fun a0=>(enclosure_Square.t k _ a0).trans rfl
theorem galoisref03_FromInt.t (k:Nat) (L:Labels D1) (a0:Int):evTop ctx (galoisref03_FromInt.orc k) L galoisref03_FromInt.note Tryz.f61 [.data (.int .i64) a0] (kR [.d Y1])=galoisref03_FromInt k a0:=by kernel_rfl
theorem galoisref03_FromInt.sound {β:Type} (k:Nat):FunOK Tryz.prog ctx 61 (galoisref03_FromInt.C k:Fun β):=soundN (k:=k) (n:=galoisref03_FromInt.note) ctx_ok mixed_ok (by kernel_rfl) (by kernel_rfl) (orc_sound (orc_cons (galoisref02_FromInt.sound k) orc_nil)) fun a0=>(galoisref03_FromInt.t k _ a0).trans rfl
theorem galoisref02_Sign.t (L:Labels Int) (a0:D0):evTop ctx orcNil L galoisref02_Sign.note Tryz.f179 [.data Y0 a0] (kR [.d (.int .i64)])=galoisref02_Sign a0:=by kernel_rfl
theorem galoisref02_Sign.sound {β:Type}:FunOK Tryz.prog ctx 179 (galoisref02_Sign.C:Fun β):=soundN (k:=0) (n:=galoisref02_Sign.note) ctx_ok mixed_ok (by kernel_rfl) (by kernel_rfl) orcNil_ok fun a0=>(galoisref02_Sign.t _ a0).trans rfl
theorem galoisref03_Sign.t (L:Labels Int) (a0:D1):evTop ctx galoisref03_Sign.orc L galoisref03_Sign.note Tryz.f126 [.data Y1 a0] (kR [.d (.int .i64)])=galoisref03_Sign a0:=by kernel_rfl
theorem galoisref03_Sign.sound {β:Type}:FunOK Tryz.prog ctx 126 (galoisref03_Sign.C:Fun β):=soundN (k:=0) (n:=galoisref03_Sign.note) ctx_ok mixed_ok (by kernel_rfl) (by kernel_rfl) (orc_sound (orc_cons galoisref02_Sign.sound orc_nil)) fun a0=>(galoisref03_Sign.t _ a0).trans rfl
theorem galoisref06_Trim.t (L:Labels ((List D1))) (a0:List D1):evTop ctx galoisref06_Trim.orc L galoisref06_Trim.note Tryz.f162 [.data (.slice Y1) a0] (kR [.o Y1])=galoisref06_Trim.top (galoisref06_Trim.s0 L) a0:=by kernel_rfl
theorem galoisref06_Trim.e0 (L:Labels ((List D1))):galoisref06_Trim.s0 (evLab ctx galoisref06_Trim.orc L galoisref06_Trim.note Tryz.f162 1 (kR [.o Y1]))=galoisref06_Trim.b0 (galoisref06_Trim.s0 L):=by kernel_rfl
theorem galoisref06_Trim.run:∀ n,galoisref06_Trim.s0 (evRun ctx galoisref06_Trim.orc galoisref06_Trim.note Tryz.f162 1 (kR [.o Y1]) n)=galoisref06_Trim.l0 n:=run1 rfl galoisref06_Trim.e0 (fun _=>rfl)
theorem galoisref06_Trim.sound {β:Type} (k:Nat):FunOK Tryz.prog ctx 162 (galoisref06_Trim.C k:Fun β):=soundN (k:=k) (n:=galoisref06_Trim.note) ctx_ok mixed_ok (by kernel_rfl) (by kernel_rfl) (orc_sound (orc_cons galoisref03_Sign.sound orc_nil)) fun a0=>(galoisref06_Trim.t (evRun ctx galoisref06_Trim.orc galoisref06_Trim.note Tryz.f162 1 (kR [.o Y1]) k) a0).trans (by simp only [galoisref06_Trim.run]; rfl)
theorem galoisref06_Of.t (k:Nat) (L:Labels ((List D1))) (a0:List Int):evTop ctx (galoisref06_Of.orc k) L galoisref06_Of.note Tryz.f103 [.data (.slice (.int .i64)) a0] (kR [.o Y1])=galoisref06_Of.top k (galoisref06_Of.s0 L) a0:=by kernel_rfl
theorem galoisref06_Of.e0 (k:Nat) (L:Labels ((List D1))):galoisref06_Of.s0 (evLab ctx (galoisref06_Of.orc k) L galoisref06_Of.note Tryz.f103 1 (kR [.o Y1]))=galoisref06_Of.b0 k (galoisref06_Of.s0 L):=by kernel_rfl
theorem galoisref06_Of.run (k:Nat):∀ n,galoisref06_Of.s0 (evRun ctx (galoisref06_Of.orc k) galoisref06_Of.note Tryz.f103 1 (kR [.o Y1]) n)=galoisref06_Of.l0 k n:=run1 rfl (galoisref06_Of.e0 k) (fun _=>rfl)
theorem galoisref06_Of.sound {β:Type} (k:Nat):FunOK Tryz.prog ctx 103 (galoisref06_Of.C k:Fun β):=soundN (k:=k) (n:=galoisref06_Of.note) ctx_ok mixed_ok (by kernel_rfl) (by kernel_rfl) (orc_sound (orc_cons (galoisref03_FromInt.sound k) (orc_cons (galoisref06_Trim.sound k) orc_nil))) fun a0=>(galoisref06_Of.t k (evRun ctx (galoisref06_Of.orc k) galoisref06_Of.note Tryz.f103 1 (kR [.o Y1]) k) a0).trans (by simp only [galoisref06_Of.run]; rfl)
theorem exact_IsZero.t (L:Labels Bool) (a0:D1):evTop ctx orcNil L exact_IsZero.note Tryz.f163 [.data Y1 a0] (kR [.d .bool])=exact_IsZero a0:=by kernel_rfl
theorem exact_IsZero.sound {β:Type}:FunOK Tryz.prog ctx 163 (exact_IsZero.C:Fun β):=soundN (k:=0) (n:=exact_IsZero.note) ctx_ok mixed_ok (by kernel_rfl) (by kernel_rfl) orcNil_ok fun a0=>(exact_IsZero.t _ a0).trans rfl
theorem qpoly_Check.t (k:Nat) (L:Labels Int) (a0:List D1):evTop ctx (qpoly_Check.orc k) L qpoly_Check.note Tryz.f106 [.data (.slice Y1) a0] (kR [.d (.int .i64)])=qpoly_Check.top k (qpoly_Check.s0 L) a0:=by kernel_rfl
theorem qpoly_Check.e0 (k:Nat) (L:Labels Int):qpoly_Check.s0 (evLab ctx (qpoly_Check.orc k) L qpoly_Check.note Tryz.f106 1 (kR [.d (.int .i64)]))=qpoly_Check.b0 k (qpoly_Check.s0 L):=by kernel_rfl
theorem qpoly_Check.run (k:Nat):∀ n,qpoly_Check.s0 (evRun ctx (qpoly_Check.orc k) qpoly_Check.note Tryz.f106 1 (kR [.d (.int .i64)]) n)=qpoly_Check.l0 k n:=run1 rfl (qpoly_Check.e0 k) (fun _=>rfl)
theorem qpoly_Check.sound {β:Type} (k:Nat):FunOK Tryz.prog ctx 106 (qpoly_Check.C k:Fun β):=soundN (k:=k) (n:=qpoly_Check.note) ctx_ok mixed_ok (by kernel_rfl) (by kernel_rfl) (orc_sound (orc_cons (rational_Check.sound k) (orc_cons exact_IsZero.sound orc_nil))) fun a0=>(qpoly_Check.t k (evRun ctx (qpoly_Check.orc k) qpoly_Check.note Tryz.f106 1 (kR [.d (.int .i64)]) k) a0).trans (by simp only [qpoly_Check.run]; rfl)
theorem ival_Zero.t (k:Nat) (L:Labels D2) :evTop ctx (ival_Zero.orc k) L ival_Zero.note Tryz.f165 [] (kR [.d Y2])=ival_Zero k :=by kernel_rfl
theorem ival_Zero.sound {β:Type} (k:Nat):FunOK Tryz.prog ctx 165 (ival_Zero.C k:Fun β):=soundN (k:=k) (n:=ival_Zero.note) ctx_ok mixed_ok (by kernel_rfl) (by kernel_rfl) (orc_sound (orc_cons (exact_Int.sound k) (orc_cons ival_Point.sound orc_nil))) ((ival_Zero.t k _ ).trans rfl)
theorem exact_IntAdd.t (k:Nat) (L:Labels D0) (a0 a1:D0):evTop ctx (exact_IntAdd.orc k) L exact_IntAdd.note Tryz.f213 [.data Y0 a0,.data Y0 a1] (kR [.d Y0])=exact_IntAdd k a0 a1:=by kernel_rfl
theorem exact_IntAdd.sound {β:Type} (k:Nat):FunOK Tryz.prog ctx 213 (exact_IntAdd.C k:Fun β):=soundN (k:=k) (n:=exact_IntAdd.note) ctx_ok mixed_ok (by kernel_rfl) (by kernel_rfl) (orc_sound (orc_cons (exact_NatAdd.sound k) (orc_cons exact_IntMake.sound (orc_cons (exact_NatCmp.sound k) (orc_cons (exact_NatSub.sound k) orc_nil))))) fun a0 a1=>(exact_IntAdd.t k _ a0 a1).trans rfl
theorem exact_Add.t (k:Nat) (L:Labels D1) (a0 a1:D1):evTop ctx (exact_Add.orc k) L exact_Add.note Tryz.f174 [.data Y1 a0,.data Y1 a1] (kR [.d Y1])=exact_Add k a0 a1:=by kernel_rfl
theorem exact_Add.sound {β:Type} (k:Nat):FunOK Tryz.prog ctx 174 (exact_Add.C k:Fun β):=soundN (k:=k) (n:=exact_Add.note) ctx_ok mixed_ok (by kernel_rfl) (by kernel_rfl) (orc_sound (orc_cons (exact_IntAdd.sound k) (orc_cons exact_Whole.sound (orc_cons (exact_Make.sound k) (orc_cons (exact_NatMul.sound k) (orc_cons exact_IntMake.sound orc_nil)))))) fun a0 a1=>(exact_Add.t k _ a0 a1).trans rfl
theorem ival_Add.t (k:Nat) (L:Labels D2) (a0 a1:D2):evTop ctx (ival_Add.orc k) L ival_Add.note Tryz.f121 [.data Y2 a0,.data Y2 a1] (kR [.d Y2])=ival_Add k a0 a1:=by kernel_rfl
theorem ival_Add.sound {β:Type} (k:Nat):FunOK Tryz.prog ctx 121 (ival_Add.C k:Fun β):=soundN (k:=k) (n:=ival_Add.note) ctx_ok mixed_ok (by kernel_rfl) (by kernel_rfl) (orc_sound (orc_cons (exact_Add.sound k) orc_nil)) fun a0 a1=>(ival_Add.t k _ a0 a1).trans rfl
theorem ival_Round.t (k:Nat) (L:Labels D2) (a0:D2) (a1:Int):evTop ctx (ival_Round.orc k) L ival_Round.note Tryz.f113 [.data Y2 a0,.data (.int .i64) a1] (kR [.d Y2])=ival_Round k a0 a1:=by kernel_rfl
theorem ival_Round.sound {β:Type} (k:Nat):FunOK Tryz.prog ctx 113 (ival_Round.C k:Fun β):=soundN (k:=k) (n:=ival_Round.note) ctx_ok mixed_ok (by kernel_rfl) (by kernel_rfl) (orc_sound (orc_cons (ival_down.sound k) (orc_cons exact_Neg.sound orc_nil))) fun a0 a1=>(ival_Round.t k _ a0 a1).trans rfl
theorem ival_EvalPoly.t (k:Nat) (L:Labels D2) (a0:List D1) (a1:D2) (a2:Int):evTop ctx (ival_EvalPoly.orc k) L ival_EvalPoly.note Tryz.f109 [.data (.slice Y1) a0,.data Y2 a1,.data (.int .i64) a2] (kR [.d Y2])=ival_EvalPoly.top k (ival_EvalPoly.s0 L) a0 a1 a2:=by kernel_rfl
theorem ival_EvalPoly.e0 (k:Nat) (L:Labels D2):ival_EvalPoly.s0 (evLab ctx (ival_EvalPoly.orc k) L ival_EvalPoly.note Tryz.f109 3 (kR [.d Y2]))=ival_EvalPoly.b0 k (ival_EvalPoly.s0 L):=by kernel_rfl
theorem ival_EvalPoly.run (k:Nat):∀ n,ival_EvalPoly.s0 (evRun ctx (ival_EvalPoly.orc k) ival_EvalPoly.note Tryz.f109 3 (kR [.d Y2]) n)=ival_EvalPoly.l0 k n:=run1 rfl (ival_EvalPoly.e0 k) (fun _=>rfl)
theorem ival_EvalPoly.sound {β:Type} (k:Nat):FunOK Tryz.prog ctx 109 (ival_EvalPoly.C k:Fun β):=soundN (k:=k) (n:=ival_EvalPoly.note) ctx_ok mixed_ok (by kernel_rfl) (by kernel_rfl) (orc_sound (orc_cons (ival_Zero.sound k) (orc_cons (ival_Mul.sound k) (orc_cons (ival_Around.sound k) (orc_cons (ival_Add.sound k) (orc_cons (ival_Round.sound k) orc_nil)))))) fun a0 a1 a2=>(ival_EvalPoly.t k (evRun ctx (ival_EvalPoly.orc k) ival_EvalPoly.note Tryz.f109 3 (kR [.d Y2]) k) a0 a1 a2).trans (by simp only [ival_EvalPoly.run]; rfl)
theorem enclosure_EvalPoly.t (k:Nat) (L:Labels (D2×Int)) (a0:List D1) (a1:D2) (a2:Int):evTop ctx (enclosure_EvalPoly.orc k) L enclosure_EvalPoly.note Tryz.f20 [.data (.slice Y1) a0,.data Y2 a1,.data (.int .i64) a2] (kR [.d Y2,.d (.int .i64)])=enclosure_EvalPoly k a0 a1 a2:=by kernel_rfl
theorem enclosure_EvalPoly.sound {β:Type} (k:Nat):FunOK Tryz.prog ctx 20 (enclosure_EvalPoly.C k:Fun β):=soundN (k:=k) (n:=enclosure_EvalPoly.note) ctx_ok mixed_ok (by kernel_rfl) (by kernel_rfl) (orc_sound (orc_cons (qpoly_Check.sound k) (orc_cons (enclosure_Check.sound k) (orc_cons enclosure_grid.sound (orc_cons (enclosure_first.sound k) (orc_cons (ival_EvalPoly.sound k) (orc_cons enclosure_interval.sound orc_nil))))))) fun a0 a1 a2=>(enclosure_EvalPoly.t k _ a0 a1 a2).trans rfl
theorem galoisref19_Zero.t (k:Nat) (L:Labels D2) :evTop ctx (galoisref19_Zero.orc k) L galoisref19_Zero.note Tryz.f104 [] (kR [.d Y2])=galoisref19_Zero k :=by kernel_rfl
theorem galoisref19_Zero.sound {β:Type} (k:Nat):FunOK Tryz.prog ctx 104 (galoisref19_Zero.C k:Fun β):=soundN (k:=k) (n:=galoisref19_Zero.note) ctx_ok mixed_ok (by kernel_rfl) (by kernel_rfl) (orc_sound (orc_cons (galoisref03_Of.sound k) (orc_cons galoisref19_Make.sound orc_nil))) ((galoisref19_Zero.t k _ ).trans rfl)
theorem enclosure_CheckBox.t (k:Nat) (L:Labels Int) (a0:D3):evTop ctx (enclosure_CheckBox.orc k) L enclosure_CheckBox.note Tryz.f15 [.data Y3 a0] (kR [.d (.int .i64)])=enclosure_CheckBox k a0:=by kernel_rfl
theorem enclosure_CheckBox.sound {β:Type} (k:Nat):FunOK Tryz.prog ctx 15 (enclosure_CheckBox.C k:Fun β):=soundN (k:=k) (n:=enclosure_CheckBox.note) ctx_ok mixed_ok (by kernel_rfl) (by kernel_rfl) (orc_sound (orc_cons (enclosure_Check.sound k) (orc_cons (enclosure_first.sound k) orc_nil))) fun a0=>(enclosure_CheckBox.t k _ a0).trans rfl
theorem ival_Neg.t (L:Labels D2) (a0:D2):evTop ctx ival_Neg.orc L ival_Neg.note Tryz.f175 [.data Y2 a0] (kR [.d Y2])=ival_Neg a0:=by kernel_rfl
theorem ival_Neg.sound {β:Type}:FunOK Tryz.prog ctx 175 (ival_Neg.C:Fun β):=soundN (k:=0) (n:=ival_Neg.note) ctx_ok mixed_ok (by kernel_rfl) (by kernel_rfl) (orc_sound (orc_cons exact_Neg.sound orc_nil)) fun a0=>(ival_Neg.t _ a0).trans rfl
theorem ival_Sub.t (k:Nat) (L:Labels D2) (a0 a1:D2):evTop ctx (ival_Sub.orc k) L ival_Sub.note Tryz.f122 [.data Y2 a0,.data Y2 a1] (kR [.d Y2])=ival_Sub k a0 a1:=by kernel_rfl
theorem ival_Sub.sound {β:Type} (k:Nat):FunOK Tryz.prog ctx 122 (ival_Sub.C k:Fun β):=soundN (k:=k) (n:=ival_Sub.note) ctx_ok mixed_ok (by kernel_rfl) (by kernel_rfl) (orc_sound (orc_cons ival_Neg.sound (orc_cons (ival_Add.sound k) orc_nil))) fun a0 a1=>(ival_Sub.t k _ a0 a1).trans rfl
theorem ival_MulBox.t (k:Nat) (L:Labels D3) (a0 a1:D3):evTop ctx (ival_MulBox.orc k) L ival_MulBox.note Tryz.f139 [.data Y3 a0,.data Y3 a1] (kR [.d Y3])=ival_MulBox k a0 a1:=by kernel_rfl
theorem ival_MulBox.sound {β:Type} (k:Nat):FunOK Tryz.prog ctx 139 (ival_MulBox.C k:Fun β):=soundN (k:=k) (n:=ival_MulBox.note) ctx_ok mixed_ok (by kernel_rfl) (by kernel_rfl) (orc_sound (orc_cons (ival_Mul.sound k) (orc_cons (ival_Sub.sound k) (orc_cons (ival_Add.sound k) orc_nil)))) fun a0 a1=>(ival_MulBox.t k _ a0 a1).trans rfl
theorem ival_LargeBox.t (L:Labels Bool) (a0:D3):evTop ctx ival_LargeBox.orc L ival_LargeBox.note Tryz.f186 [.data Y3 a0] (kR [.d .bool])=ival_LargeBox a0:=by kernel_rfl
theorem ival_LargeBox.sound {β:Type}:FunOK Tryz.prog ctx 186 (ival_LargeBox.C:Fun β):=soundN (k:=0) (n:=ival_LargeBox.note) ctx_ok mixed_ok (by kernel_rfl) (by kernel_rfl) (orc_sound (orc_cons ival_Large.sound orc_nil)) fun a0=>(ival_LargeBox.t _ a0).trans rfl
theorem enclosure_box.t (L:Labels (D3×Int)) (a0:D3):evTop ctx enclosure_box.orc L enclosure_box.note Tryz.f133 [.data Y3 a0] (kR [.d Y3,.d (.int .i64)])=enclosure_box a0:=by kernel_rfl
theorem enclosure_box.sound {β:Type}:FunOK Tryz.prog ctx 133 (enclosure_box.C:Fun β):=soundN (k:=0) (n:=enclosure_box.note) ctx_ok mixed_ok (by kernel_rfl) (by kernel_rfl) (orc_sound (orc_cons ival_LargeBox.sound orc_nil)) fun a0=>(enclosure_box.t _ a0).trans rfl
theorem enclosure_MulBox.t (k:Nat) (L:Labels (D3×Int)) (a0 a1:D3):evTop ctx (enclosure_MulBox.orc k) L enclosure_MulBox.note Tryz.f59 [.data Y3 a0,.data Y3 a1] (kR [.d Y3,.d (.int .i64)])=enclosure_MulBox k a0 a1:=by kernel_rfl
theorem enclosure_MulBox.sound {β:Type} (k:Nat):FunOK Tryz.prog ctx 59 (enclosure_MulBox.C k:Fun β):=soundN (k:=k) (n:=enclosure_MulBox.note) ctx_ok mixed_ok (by kernel_rfl) (by kernel_rfl) (orc_sound (orc_cons (enclosure_CheckBox.sound k) (orc_cons (enclosure_first.sound k) (orc_cons (ival_MulBox.sound k) (orc_cons enclosure_box.sound orc_nil))))) fun a0 a1=>(enclosure_MulBox.t k _ a0 a1).trans rfl
theorem galoislaw19_awake.t (k:Nat) (L:Labels Bool) :evTop ctx (galoislaw19_awake.orc k) L galoislaw19_awake.note Tryz.f17 [] (kR [.d .bool])=galoislaw19_awake.top k (galoislaw19_awake.s0 L) :=by kernel_rfl
theorem galoislaw19_awake.e0 (k:Nat) (L:Labels Bool):galoislaw19_awake.s0 (evLab ctx (galoislaw19_awake.orc k) L galoislaw19_awake.note Tryz.f17 0 (kR [.d .bool]))=galoislaw19_awake.b0 k:=by kernel_rfl
theorem galoislaw19_awake.run (k:Nat):∀ n,galoislaw19_awake.s0 (evRun ctx (galoislaw19_awake.orc k) galoislaw19_awake.note Tryz.f17 0 (kR [.d .bool]) n)=galoislaw19_awake.l0 k n:=run1' rfl (galoislaw19_awake.e0 k) (fun _=>rfl)
theorem galoislaw19_awake.sound {β:Type} (k:Nat):FunOK Tryz.prog ctx 17 (galoislaw19_awake.C k:Fun β):=soundN (k:=k) (n:=galoislaw19_awake.note) ctx_ok mixed_ok (by kernel_rfl) (by kernel_rfl) (orc_sound (orc_cons (galoisref03_Of.sound k) (orc_cons (enclosure_Around.sound k) (orc_cons (galoislaw19_make2.sound k) (orc_cons (enclosure_Mul.sound k) (orc_cons (enclosure_Square.sound k) (orc_cons (galoisref06_Of.sound k) (orc_cons (enclosure_EvalPoly.sound k) (orc_cons (galoisref19_Zero.sound k) (orc_cons (enclosure_MulBox.sound k) (orc_cons (enclosure_Check.sound k) orc_nil))))))))))) ((galoislaw19_awake.t k (evRun ctx (galoislaw19_awake.orc k) galoislaw19_awake.note Tryz.f17 0 (kR [.d .bool]) k) ).trans (by simp only [galoislaw19_awake.run]; rfl))
theorem awake_true:galoislaw19_awake 70=some true:=by kernel_rfl
theorem awakeT.sound {β:Type}:FunOK Tryz.prog ctx 17 (awakeT.C:Fun β):=by
  intro xs κ r h
  rcases xs with _ | ⟨x',l'⟩
  · refine galoislaw19_awake.sound 70 [] κ r ?_
    show (galoislaw19_awake 70).bind (fun r=>κ [.data .bool r])=some r
    rw [awake_true]
    exact h
  · exact no h
theorem galoisref01_Valid.t (L:Labels Bool) (a0:ByteArray):evTop ctx orcNil L galoisref01_Valid.note Tryz.f115 [.data .str a0] (kR [.d .bool])=galoisref01_Valid a0:=by kernel_rfl
theorem galoisref01_Valid.sound {β:Type}:FunOK Tryz.prog ctx 115 (galoisref01_Valid.C:Fun β):=soundN (k:=0) (n:=galoisref01_Valid.note) ctx_ok mixed_ok (by kernel_rfl) (by kernel_rfl) orcNil_ok fun a0=>(galoisref01_Valid.t _ a0).trans rfl
theorem galoisref02_Valid.t (L:Labels Bool) (a0:D0):evTop ctx galoisref02_Valid.orc L galoisref02_Valid.note Tryz.f114 [.data Y0 a0] (kR [.d .bool])=galoisref02_Valid a0:=by kernel_rfl
theorem galoisref02_Valid.sound {β:Type}:FunOK Tryz.prog ctx 114 (galoisref02_Valid.C:Fun β):=soundN (k:=0) (n:=galoisref02_Valid.note) ctx_ok mixed_ok (by kernel_rfl) (by kernel_rfl) (orc_sound (orc_cons galoisref01_Valid.sound orc_nil)) fun a0=>(galoisref02_Valid.t _ a0).trans rfl
theorem galoisref01_Fits.t (L:Labels Int) (a0:ByteArray):evTop ctx orcNil L galoisref01_Fits.note Tryz.f170 [.data .str a0] (kR [.d (.int .i64)])=galoisref01_Fits a0:=by kernel_rfl
theorem galoisref01_Fits.sound {β:Type}:FunOK Tryz.prog ctx 170 (galoisref01_Fits.C:Fun β):=soundN (k:=0) (n:=galoisref01_Fits.note) ctx_ok mixed_ok (by kernel_rfl) (by kernel_rfl) orcNil_ok fun a0=>(galoisref01_Fits.t _ a0).trans rfl
theorem galoisref02_Fits.t (L:Labels Int) (a0:D0):evTop ctx galoisref02_Fits.orc L galoisref02_Fits.note Tryz.f169 [.data Y0 a0] (kR [.d (.int .i64)])=galoisref02_Fits a0:=by kernel_rfl
theorem galoisref02_Fits.sound {β:Type}:FunOK Tryz.prog ctx 169 (galoisref02_Fits.C:Fun β):=soundN (k:=0) (n:=galoisref02_Fits.note) ctx_ok mixed_ok (by kernel_rfl) (by kernel_rfl) (orc_sound (orc_cons galoisref01_Fits.sound orc_nil)) fun a0=>(galoisref02_Fits.t _ a0).trans rfl
theorem galoisref03_Fits.t (L:Labels Int) (a0:D1):evTop ctx galoisref03_Fits.orc L galoisref03_Fits.note Tryz.f116 [.data Y1 a0] (kR [.d (.int .i64)])=galoisref03_Fits a0:=by kernel_rfl
theorem galoisref03_Fits.sound {β:Type}:FunOK Tryz.prog ctx 116 (galoisref03_Fits.C:Fun β):=soundN (k:=0) (n:=galoisref03_Fits.note) ctx_ok mixed_ok (by kernel_rfl) (by kernel_rfl) (orc_sound (orc_cons galoisref02_Fits.sound (orc_cons galoisref01_Fits.sound orc_nil))) fun a0=>(galoisref03_Fits.t _ a0).trans rfl
theorem galoisref03_Check.t (k:Nat) (L:Labels Int) (a0:D1):evTop ctx (galoisref03_Check.orc k) L galoisref03_Check.note Tryz.f29 [.data Y1 a0] (kR [.d (.int .i64)])=galoisref03_Check.top k (galoisref03_Check.s0 L) a0:=by kernel_rfl
theorem galoisref03_Check.e0 (k:Nat) (L:Labels Int):galoisref03_Check.s0 (evLab ctx (galoisref03_Check.orc k) L galoisref03_Check.note Tryz.f29 1 (kR [.d (.int .i64)]))=galoisref03_Check.b0 k:=by kernel_rfl
theorem galoisref03_Check.run (k:Nat):∀ n,galoisref03_Check.s0 (evRun ctx (galoisref03_Check.orc k) galoisref03_Check.note Tryz.f29 1 (kR [.d (.int .i64)]) n)=galoisref03_Check.l0 k n:=run1' rfl (galoisref03_Check.e0 k) (fun _=>rfl)
theorem galoisref03_Check.sound {β:Type} (k:Nat):FunOK Tryz.prog ctx 29 (galoisref03_Check.C k:Fun β):=soundN (k:=k) (n:=galoisref03_Check.note) ctx_ok mixed_ok (by kernel_rfl) (by kernel_rfl) (orc_sound (orc_cons galoisref02_Valid.sound (orc_cons galoisref03_Fits.sound (orc_cons (galoisref01_Gcd.sound k) (orc_cons galoisref01_Valid.sound orc_nil))))) fun a0=>(galoisref03_Check.t k (evRun ctx (galoisref03_Check.orc k) galoisref03_Check.note Tryz.f29 1 (kR [.d (.int .i64)]) k) a0).trans (by simp only [galoisref03_Check.run]; rfl)
theorem galoisref19_Dyadic.t (L:Labels Bool) (a0:D1):evTop ctx orcNil L galoisref19_Dyadic.note Tryz.f100 [.data Y1 a0] (kR [.d .bool])=galoisref19_Dyadic.top (galoisref19_Dyadic.s0 L) a0:=by kernel_rfl
theorem galoisref19_Dyadic.e0 (L:Labels Bool):galoisref19_Dyadic.s0 (evLab ctx orcNil L galoisref19_Dyadic.note Tryz.f100 1 (kR [.d .bool]))=galoisref19_Dyadic.b0 (galoisref19_Dyadic.s0 L):=by kernel_rfl
theorem galoisref19_Dyadic.run:∀ n,galoisref19_Dyadic.s0 (evRun ctx orcNil galoisref19_Dyadic.note Tryz.f100 1 (kR [.d .bool]) n)=galoisref19_Dyadic.l0 n:=run1 rfl galoisref19_Dyadic.e0 (fun _=>rfl)
theorem galoisref19_Dyadic.sound {β:Type} (k:Nat):FunOK Tryz.prog ctx 100 (galoisref19_Dyadic.C k:Fun β):=soundN (k:=k) (n:=galoisref19_Dyadic.note) ctx_ok mixed_ok (by kernel_rfl) (by kernel_rfl) orcNil_ok fun a0=>(galoisref19_Dyadic.t (evRun ctx orcNil galoisref19_Dyadic.note Tryz.f100 1 (kR [.d .bool]) k) a0).trans (by simp only [galoisref19_Dyadic.run]; rfl)
theorem galoisref03_denominator.t (L:Labels D0) (a0:D1):evTop ctx orcNil L galoisref03_denominator.note Tryz.f130 [.data Y1 a0] (kR [.d Y0])=galoisref03_denominator a0:=by kernel_rfl
theorem galoisref03_denominator.sound {β:Type}:FunOK Tryz.prog ctx 130 (galoisref03_denominator.C:Fun β):=soundN (k:=0) (n:=galoisref03_denominator.note) ctx_ok mixed_ok (by kernel_rfl) (by kernel_rfl) orcNil_ok fun a0=>(galoisref03_denominator.t _ a0).trans rfl
theorem galoisref01_Mul.t (k:Nat) (L:Labels ByteArray) (a0 a1:ByteArray):evTop ctx (galoisref01_Mul.orc k) L galoisref01_Mul.note Tryz.f184 [.data .str a0,.data .str a1] (kR [.d .str])=galoisref01_Mul.top k (galoisref01_Mul.s0 L) a0 a1:=by kernel_rfl
theorem galoisref01_Mul.e0 (k:Nat) (L:Labels ByteArray):galoisref01_Mul.s0 (evLab ctx (galoisref01_Mul.orc k) L galoisref01_Mul.note Tryz.f184 2 (kR [.d .str]))=galoisref01_Mul.b0 k (galoisref01_Mul.s1 L):=by kernel_rfl
theorem galoisref01_Mul.e1 (k:Nat) (L:Labels ByteArray):galoisref01_Mul.s1 (evLab ctx (galoisref01_Mul.orc k) L galoisref01_Mul.note Tryz.f184 2 (kR [.d .str]))=galoisref01_Mul.b1 k (galoisref01_Mul.s0 L) (galoisref01_Mul.s1 L):=by kernel_rfl
theorem galoisref01_Mul.run (k:Nat):∀ n,galoisref01_Mul.s0 (evRun ctx (galoisref01_Mul.orc k) galoisref01_Mul.note Tryz.f184 2 (kR [.d .str]) n)=galoisref01_Mul.l0 k n∧galoisref01_Mul.s1 (evRun ctx (galoisref01_Mul.orc k) galoisref01_Mul.note Tryz.f184 2 (kR [.d .str]) n)=galoisref01_Mul.l1 k n:=by
  intro n
  induction n with
  | zero=>exact ⟨rfl,rfl⟩
  | succ n ih=>exact ⟨(galoisref01_Mul.e0 k _).trans (by simp only [ih]; rfl),(galoisref01_Mul.e1 k _).trans (by simp only [ih]; rfl)⟩
theorem galoisref01_Mul.sound {β:Type} (k:Nat):FunOK Tryz.prog ctx 184 (galoisref01_Mul.C k:Fun β):=soundN (k:=k) (n:=galoisref01_Mul.note) ctx_ok mixed_ok (by kernel_rfl) (by kernel_rfl) (orc_sound (orc_cons (galoisref01_limbs.sound k) (orc_cons (galoisref01_pack.sound k) orc_nil))) fun a0 a1=>(galoisref01_Mul.t k (evRun ctx (galoisref01_Mul.orc k) galoisref01_Mul.note Tryz.f184 2 (kR [.d .str]) k) a0 a1).trans (by simp only [galoisref01_Mul.run]; rfl)
theorem galoisref02_Mul.t (k:Nat) (L:Labels D0) (a0 a1:D0):evTop ctx (galoisref02_Mul.orc k) L galoisref02_Mul.note Tryz.f129 [.data Y0 a0,.data Y0 a1] (kR [.d Y0])=galoisref02_Mul k a0 a1:=by kernel_rfl
theorem galoisref02_Mul.sound {β:Type} (k:Nat):FunOK Tryz.prog ctx 129 (galoisref02_Mul.C k:Fun β):=soundN (k:=k) (n:=galoisref02_Mul.note) ctx_ok mixed_ok (by kernel_rfl) (by kernel_rfl) (orc_sound (orc_cons (galoisref01_Mul.sound k) (orc_cons galoisref02_Make.sound orc_nil))) fun a0 a1=>(galoisref02_Mul.t k _ a0 a1).trans rfl
theorem galoisref01_Compare.t (L:Labels Int) (a0 a1:ByteArray):evTop ctx orcNil L galoisref01_Compare.note Tryz.f182 [.data .str a0,.data .str a1] (kR [.d (.int .i64)])=galoisref01_Compare.top (galoisref01_Compare.s0 L) a0 a1:=by kernel_rfl
theorem galoisref01_Compare.e0 (L:Labels Int):galoisref01_Compare.s0 (evLab ctx orcNil L galoisref01_Compare.note Tryz.f182 2 (kR [.d (.int .i64)]))=galoisref01_Compare.b0:=by kernel_rfl
theorem galoisref01_Compare.run:∀ n,galoisref01_Compare.s0 (evRun ctx orcNil galoisref01_Compare.note Tryz.f182 2 (kR [.d (.int .i64)]) n)=galoisref01_Compare.l0 n:=run1' rfl galoisref01_Compare.e0 (fun _=>rfl)
theorem galoisref01_Compare.sound {β:Type} (k:Nat):FunOK Tryz.prog ctx 182 (galoisref01_Compare.C k:Fun β):=soundN (k:=k) (n:=galoisref01_Compare.note) ctx_ok mixed_ok (by kernel_rfl) (by kernel_rfl) orcNil_ok fun a0 a1=>(galoisref01_Compare.t (evRun ctx orcNil galoisref01_Compare.note Tryz.f182 2 (kR [.d (.int .i64)]) k) a0 a1).trans (by simp only [galoisref01_Compare.run]; rfl)
theorem galoisref02_Compare.t (k:Nat) (L:Labels Int) (a0 a1:D0):evTop ctx (galoisref02_Compare.orc k) L galoisref02_Compare.note Tryz.f138 [.data Y0 a0,.data Y0 a1] (kR [.d (.int .i64)])=galoisref02_Compare k a0 a1:=by kernel_rfl
theorem galoisref02_Compare.sound {β:Type} (k:Nat):FunOK Tryz.prog ctx 138 (galoisref02_Compare.C k:Fun β):=soundN (k:=k) (n:=galoisref02_Compare.note) ctx_ok mixed_ok (by kernel_rfl) (by kernel_rfl) (orc_sound (orc_cons galoisref02_Sign.sound (orc_cons (galoisref01_Compare.sound k) orc_nil))) fun a0 a1=>(galoisref02_Compare.t k _ a0 a1).trans rfl
theorem galoisref03_Compare.t (k:Nat) (L:Labels Int) (a0 a1:D1):evTop ctx (galoisref03_Compare.orc k) L galoisref03_Compare.note Tryz.f58 [.data Y1 a0,.data Y1 a1] (kR [.d (.int .i64)])=galoisref03_Compare k a0 a1:=by kernel_rfl
theorem galoisref03_Compare.sound {β:Type} (k:Nat):FunOK Tryz.prog ctx 58 (galoisref03_Compare.C k:Fun β):=soundN (k:=k) (n:=galoisref03_Compare.note) ctx_ok mixed_ok (by kernel_rfl) (by kernel_rfl) (orc_sound (orc_cons galoisref03_denominator.sound (orc_cons (galoisref02_Mul.sound k) (orc_cons (galoisref02_Compare.sound k) orc_nil)))) fun a0 a1=>(galoisref03_Compare.t k _ a0 a1).trans rfl
theorem galoisref19_Check.t (k:Nat) (L:Labels Int) (a0:D2):evTop ctx (galoisref19_Check.orc k) L galoisref19_Check.note Tryz.f14 [.data Y2 a0] (kR [.d (.int .i64)])=galoisref19_Check.top k (galoisref19_Check.s0 L) a0:=by kernel_rfl
theorem galoisref19_Check.e0 (k:Nat) (L:Labels Int):galoisref19_Check.s0 (evLab ctx (galoisref19_Check.orc k) L galoisref19_Check.note Tryz.f14 1 (kR [.d (.int .i64)]))=galoisref19_Check.b0 k:=by kernel_rfl
theorem galoisref19_Check.run (k:Nat):∀ n,galoisref19_Check.s0 (evRun ctx (galoisref19_Check.orc k) galoisref19_Check.note Tryz.f14 1 (kR [.d (.int .i64)]) n)=galoisref19_Check.l0 k n:=run1' rfl (galoisref19_Check.e0 k) (fun _=>rfl)
theorem galoisref19_Check.sound {β:Type} (k:Nat):FunOK Tryz.prog ctx 14 (galoisref19_Check.C k:Fun β):=soundN (k:=k) (n:=galoisref19_Check.note) ctx_ok mixed_ok (by kernel_rfl) (by kernel_rfl) (orc_sound (orc_cons (galoisref03_Check.sound k) (orc_cons (galoisref19_Dyadic.sound k) (orc_cons (galoisref03_Compare.sound k) orc_nil)))) fun a0=>(galoisref19_Check.t k (evRun ctx (galoisref19_Check.orc k) galoisref19_Check.note Tryz.f14 1 (kR [.d (.int .i64)]) k) a0).trans (by simp only [galoisref19_Check.run]; rfl)
theorem galoisref19_CheckBox.t (k:Nat) (L:Labels Int) (a0:D3):evTop ctx (galoisref19_CheckBox.orc k) L galoisref19_CheckBox.note Tryz.f16 [.data Y3 a0] (kR [.d (.int .i64)])=galoisref19_CheckBox k a0:=by kernel_rfl
theorem galoisref19_CheckBox.sound {β:Type} (k:Nat):FunOK Tryz.prog ctx 16 (galoisref19_CheckBox.C k:Fun β):=soundN (k:=k) (n:=galoisref19_CheckBox.note) ctx_ok mixed_ok (by kernel_rfl) (by kernel_rfl) (orc_sound (orc_cons (galoisref19_Check.sound k) orc_nil)) fun a0=>(galoisref19_CheckBox.t k _ a0).trans rfl
theorem galoisref19_short.t (L:Labels Bool) (a0:D1):evTop ctx orcNil L galoisref19_short.note Tryz.f105 [.data Y1 a0] (kR [.d .bool])=galoisref19_short a0:=by kernel_rfl
theorem galoisref19_short.sound {β:Type}:FunOK Tryz.prog ctx 105 (galoisref19_short.C:Fun β):=soundN (k:=0) (n:=galoisref19_short.note) ctx_ok mixed_ok (by kernel_rfl) (by kernel_rfl) orcNil_ok fun a0=>(galoisref19_short.t _ a0).trans rfl
theorem galoisref19_FewPoly.t (L:Labels Bool) (a0:List D1):evTop ctx galoisref19_FewPoly.orc L galoisref19_FewPoly.note Tryz.f18 [.data (.slice Y1) a0] (kR [.d .bool])=galoisref19_FewPoly.top (galoisref19_FewPoly.s0 L) a0:=by kernel_rfl
theorem galoisref19_FewPoly.e0 (L:Labels Bool):galoisref19_FewPoly.s0 (evLab ctx galoisref19_FewPoly.orc L galoisref19_FewPoly.note Tryz.f18 1 (kR [.d .bool]))=galoisref19_FewPoly.b0 (galoisref19_FewPoly.s0 L):=by kernel_rfl
theorem galoisref19_FewPoly.run:∀ n,galoisref19_FewPoly.s0 (evRun ctx galoisref19_FewPoly.orc galoisref19_FewPoly.note Tryz.f18 1 (kR [.d .bool]) n)=galoisref19_FewPoly.l0 n:=run1 rfl galoisref19_FewPoly.e0 (fun _=>rfl)
theorem galoisref19_FewPoly.sound {β:Type} (k:Nat):FunOK Tryz.prog ctx 18 (galoisref19_FewPoly.C k:Fun β):=soundN (k:=k) (n:=galoisref19_FewPoly.note) ctx_ok mixed_ok (by kernel_rfl) (by kernel_rfl) (orc_sound (orc_cons galoisref19_short.sound orc_nil)) fun a0=>(galoisref19_FewPoly.t (evRun ctx galoisref19_FewPoly.orc galoisref19_FewPoly.note Tryz.f18 1 (kR [.d .bool]) k) a0).trans (by simp only [galoisref19_FewPoly.run]; rfl)
theorem galoisref19_Few.t (L:Labels Bool) (a0:D2):evTop ctx galoisref19_Few.orc L galoisref19_Few.note Tryz.f19 [.data Y2 a0] (kR [.d .bool])=galoisref19_Few a0:=by kernel_rfl
theorem galoisref19_Few.sound {β:Type}:FunOK Tryz.prog ctx 19 (galoisref19_Few.C:Fun β):=soundN (k:=0) (n:=galoisref19_Few.note) ctx_ok mixed_ok (by kernel_rfl) (by kernel_rfl) (orc_sound (orc_cons galoisref19_short.sound orc_nil)) fun a0=>(galoisref19_Few.t _ a0).trans rfl
theorem galoisref06_Check.t (k:Nat) (L:Labels Int) (a0:List D1):evTop ctx (galoisref06_Check.orc k) L galoisref06_Check.note Tryz.f111 [.data (.slice Y1) a0] (kR [.d (.int .i64)])=galoisref06_Check.top k (galoisref06_Check.s0 L) a0:=by kernel_rfl
theorem galoisref06_Check.e0 (k:Nat) (L:Labels Int):galoisref06_Check.s0 (evLab ctx (galoisref06_Check.orc k) L galoisref06_Check.note Tryz.f111 1 (kR [.d (.int .i64)]))=galoisref06_Check.b0 k (galoisref06_Check.s0 L):=by kernel_rfl
theorem galoisref06_Check.run (k:Nat):∀ n,galoisref06_Check.s0 (evRun ctx (galoisref06_Check.orc k) galoisref06_Check.note Tryz.f111 1 (kR [.d (.int .i64)]) n)=galoisref06_Check.l0 k n:=run1 rfl (galoisref06_Check.e0 k) (fun _=>rfl)
theorem galoisref06_Check.sound {β:Type} (k:Nat):FunOK Tryz.prog ctx 111 (galoisref06_Check.C k:Fun β):=soundN (k:=k) (n:=galoisref06_Check.note) ctx_ok mixed_ok (by kernel_rfl) (by kernel_rfl) (orc_sound (orc_cons (galoisref03_Check.sound k) (orc_cons galoisref03_Sign.sound orc_nil))) fun a0=>(galoisref06_Check.t k (evRun ctx (galoisref06_Check.orc k) galoisref06_Check.note Tryz.f111 1 (kR [.d (.int .i64)]) k) a0).trans (by simp only [galoisref06_Check.run]; rfl)
theorem galoisref19_Poly.t (k:Nat) (L:Labels Int) (a0:List D1):evTop ctx (galoisref19_Poly.orc k) L galoisref19_Poly.note Tryz.f22 [.data (.slice Y1) a0] (kR [.d (.int .i64)])=galoisref19_Poly k a0:=by kernel_rfl
theorem galoisref19_Poly.sound {β:Type} (k:Nat):FunOK Tryz.prog ctx 22 (galoisref19_Poly.C k:Fun β):=soundN (k:=k) (n:=galoisref19_Poly.note) ctx_ok mixed_ok (by kernel_rfl) (by kernel_rfl) (orc_sound (orc_cons (galoisref06_Check.sound k) orc_nil)) fun a0=>(galoisref19_Poly.t k _ a0).trans rfl
theorem galoisref03_Whole.t (L:Labels D1) (a0:D0):evTop ctx orcNil L galoisref03_Whole.note Tryz.f127 [.data Y0 a0] (kR [.d Y1])=galoisref03_Whole a0:=by kernel_rfl
theorem galoisref03_Whole.sound {β:Type}:FunOK Tryz.prog ctx 127 (galoisref03_Whole.C:Fun β):=soundN (k:=0) (n:=galoisref03_Whole.note) ctx_ok mixed_ok (by kernel_rfl) (by kernel_rfl) orcNil_ok fun a0=>(galoisref03_Whole.t _ a0).trans rfl
theorem galoisref03_Mul.t (k:Nat) (L:Labels D1) (a0 a1:D1):evTop ctx (galoisref03_Mul.orc k) L galoisref03_Mul.note Tryz.f50 [.data Y1 a0,.data Y1 a1] (kR [.d Y1])=galoisref03_Mul.top k (galoisref03_Mul.s0 L) a0 a1:=by kernel_rfl
theorem galoisref03_Mul.e0 (k:Nat) (L:Labels D1):galoisref03_Mul.s0 (evLab ctx (galoisref03_Mul.orc k) L galoisref03_Mul.note Tryz.f50 2 (kR [.d Y1]))=galoisref03_Mul.b0 k:=by kernel_rfl
theorem galoisref03_Mul.run (k:Nat):∀ n,galoisref03_Mul.s0 (evRun ctx (galoisref03_Mul.orc k) galoisref03_Mul.note Tryz.f50 2 (kR [.d Y1]) n)=galoisref03_Mul.l0 k n:=run1' rfl (galoisref03_Mul.e0 k) (fun _=>rfl)
theorem galoisref03_Mul.sound {β:Type} (k:Nat):FunOK Tryz.prog ctx 50 (galoisref03_Mul.C k:Fun β):=soundN (k:=k) (n:=galoisref03_Mul.note) ctx_ok mixed_ok (by kernel_rfl) (by kernel_rfl) (orc_sound (orc_cons (galoisref02_Mul.sound k) (orc_cons galoisref03_Whole.sound (orc_cons galoisref03_denominator.sound (orc_cons (galoisref03_Make.sound k) orc_nil))))) fun a0 a1=>(galoisref03_Mul.t k (evRun ctx (galoisref03_Mul.orc k) galoisref03_Mul.note Tryz.f50 2 (kR [.d Y1]) k) a0 a1).trans (by simp only [galoisref03_Mul.run]; rfl)
theorem galoisref01_Add.t (k:Nat) (L:Labels ByteArray) (a0 a1:ByteArray):evTop ctx (galoisref01_Add.orc k) L galoisref01_Add.note Tryz.f181 [.data .str a0,.data .str a1] (kR [.d .str])=galoisref01_Add.top k (galoisref01_Add.s0 L) a0 a1:=by kernel_rfl
theorem galoisref01_Add.e0 (k:Nat) (L:Labels ByteArray):galoisref01_Add.s0 (evLab ctx (galoisref01_Add.orc k) L galoisref01_Add.note Tryz.f181 2 (kR [.d .str]))=galoisref01_Add.b0 k (galoisref01_Add.s1 L):=by kernel_rfl
theorem galoisref01_Add.e1 (k:Nat) (L:Labels ByteArray):galoisref01_Add.s1 (evLab ctx (galoisref01_Add.orc k) L galoisref01_Add.note Tryz.f181 2 (kR [.d .str]))=galoisref01_Add.b1 k (galoisref01_Add.s0 L):=by kernel_rfl
theorem galoisref01_Add.run (k:Nat):∀ n,galoisref01_Add.s0 (evRun ctx (galoisref01_Add.orc k) galoisref01_Add.note Tryz.f181 2 (kR [.d .str]) n)=galoisref01_Add.l0 k n∧galoisref01_Add.s1 (evRun ctx (galoisref01_Add.orc k) galoisref01_Add.note Tryz.f181 2 (kR [.d .str]) n)=galoisref01_Add.l1 k n:=by
  intro n
  induction n with
  | zero=>exact ⟨rfl,rfl⟩
  | succ n ih=>exact ⟨(galoisref01_Add.e0 k _).trans (by simp only [ih]; rfl),(galoisref01_Add.e1 k _).trans (by simp only [ih]; rfl)⟩
theorem galoisref01_Add.sound {β:Type} (k:Nat):FunOK Tryz.prog ctx 181 (galoisref01_Add.C k:Fun β):=soundN (k:=k) (n:=galoisref01_Add.note) ctx_ok mixed_ok (by kernel_rfl) (by kernel_rfl) (orc_sound (orc_cons (galoisref01_limbs.sound k) (orc_cons (galoisref01_pack.sound k) orc_nil))) fun a0 a1=>(galoisref01_Add.t k (evRun ctx (galoisref01_Add.orc k) galoisref01_Add.note Tryz.f181 2 (kR [.d .str]) k) a0 a1).trans (by simp only [galoisref01_Add.run]; rfl)
theorem galoisref01_Sub.t (k:Nat) (L:Labels ByteArray) (a0 a1:ByteArray):evTop ctx (galoisref01_Sub.orc k) L galoisref01_Sub.note Tryz.f183 [.data .str a0,.data .str a1] (kR [.d .str])=galoisref01_Sub.top k (galoisref01_Sub.s0 L) a0 a1:=by kernel_rfl
theorem galoisref01_Sub.e0 (k:Nat) (L:Labels ByteArray):galoisref01_Sub.s0 (evLab ctx (galoisref01_Sub.orc k) L galoisref01_Sub.note Tryz.f183 2 (kR [.d .str]))=galoisref01_Sub.b0 k (galoisref01_Sub.s0 L):=by kernel_rfl
theorem galoisref01_Sub.run (k:Nat):∀ n,galoisref01_Sub.s0 (evRun ctx (galoisref01_Sub.orc k) galoisref01_Sub.note Tryz.f183 2 (kR [.d .str]) n)=galoisref01_Sub.l0 k n:=run1 rfl (galoisref01_Sub.e0 k) (fun _=>rfl)
theorem galoisref01_Sub.sound {β:Type} (k:Nat):FunOK Tryz.prog ctx 183 (galoisref01_Sub.C k:Fun β):=soundN (k:=k) (n:=galoisref01_Sub.note) ctx_ok mixed_ok (by kernel_rfl) (by kernel_rfl) (orc_sound (orc_cons (galoisref01_Compare.sound k) (orc_cons (galoisref01_limbs.sound k) (orc_cons (galoisref01_pack.sound k) orc_nil)))) fun a0 a1=>(galoisref01_Sub.t k (evRun ctx (galoisref01_Sub.orc k) galoisref01_Sub.note Tryz.f183 2 (kR [.d .str]) k) a0 a1).trans (by simp only [galoisref01_Sub.run]; rfl)
theorem galoisref02_Neg.t (L:Labels D0) (a0:D0):evTop ctx galoisref02_Neg.orc L galoisref02_Neg.note Tryz.f185 [.data Y0 a0] (kR [.d Y0])=galoisref02_Neg a0:=by kernel_rfl
theorem galoisref02_Neg.sound {β:Type}:FunOK Tryz.prog ctx 185 (galoisref02_Neg.C:Fun β):=soundN (k:=0) (n:=galoisref02_Neg.note) ctx_ok mixed_ok (by kernel_rfl) (by kernel_rfl) (orc_sound (orc_cons galoisref02_Make.sound orc_nil)) fun a0=>(galoisref02_Neg.t _ a0).trans rfl
theorem galoisref03_Neg.t (L:Labels D1) (a0:D1):evTop ctx galoisref03_Neg.orc L galoisref03_Neg.note Tryz.f132 [.data Y1 a0] (kR [.d Y1])=galoisref03_Neg a0:=by kernel_rfl
theorem galoisref03_Neg.sound {β:Type}:FunOK Tryz.prog ctx 132 (galoisref03_Neg.C:Fun β):=soundN (k:=0) (n:=galoisref03_Neg.note) ctx_ok mixed_ok (by kernel_rfl) (by kernel_rfl) (orc_sound (orc_cons galoisref02_Neg.sound orc_nil)) fun a0=>(galoisref03_Neg.t _ a0).trans rfl
theorem galoisref02_Add.t (k:Nat) (L:Labels D0) (a0 a1:D0):evTop ctx (galoisref02_Add.orc k) L galoisref02_Add.note Tryz.f128 [.data Y0 a0,.data Y0 a1] (kR [.d Y0])=galoisref02_Add k a0 a1:=by kernel_rfl
theorem galoisref02_Add.sound {β:Type} (k:Nat):FunOK Tryz.prog ctx 128 (galoisref02_Add.C k:Fun β):=soundN (k:=k) (n:=galoisref02_Add.note) ctx_ok mixed_ok (by kernel_rfl) (by kernel_rfl) (orc_sound (orc_cons (galoisref01_Add.sound k) (orc_cons galoisref02_Make.sound (orc_cons (galoisref01_Compare.sound k) (orc_cons (galoisref01_Sub.sound k) orc_nil))))) fun a0 a1=>(galoisref02_Add.t k _ a0 a1).trans rfl
theorem galoisref03_Add.t (k:Nat) (L:Labels D1) (a0 a1:D1):evTop ctx (galoisref03_Add.orc k) L galoisref03_Add.note Tryz.f48 [.data Y1 a0,.data Y1 a1] (kR [.d Y1])=galoisref03_Add.top k (galoisref03_Add.s0 L) a0 a1:=by kernel_rfl
theorem galoisref03_Add.e0 (k:Nat) (L:Labels D1):galoisref03_Add.s0 (evLab ctx (galoisref03_Add.orc k) L galoisref03_Add.note Tryz.f48 2 (kR [.d Y1]))=galoisref03_Add.b0 k:=by kernel_rfl
theorem galoisref03_Add.run (k:Nat):∀ n,galoisref03_Add.s0 (evRun ctx (galoisref03_Add.orc k) galoisref03_Add.note Tryz.f48 2 (kR [.d Y1]) n)=galoisref03_Add.l0 k n:=run1' rfl (galoisref03_Add.e0 k) (fun _=>rfl)
theorem galoisref03_Add.sound {β:Type} (k:Nat):FunOK Tryz.prog ctx 48 (galoisref03_Add.C k:Fun β):=soundN (k:=k) (n:=galoisref03_Add.note) ctx_ok mixed_ok (by kernel_rfl) (by kernel_rfl) (orc_sound (orc_cons (galoisref02_Add.sound k) (orc_cons galoisref03_Whole.sound (orc_cons galoisref03_denominator.sound (orc_cons (galoisref02_Mul.sound k) (orc_cons (galoisref03_Make.sound k) orc_nil)))))) fun a0 a1=>(galoisref03_Add.t k (evRun ctx (galoisref03_Add.orc k) galoisref03_Add.note Tryz.f48 2 (kR [.d Y1]) k) a0 a1).trans (by simp only [galoisref03_Add.run]; rfl)
theorem galoisref03_Sub.t (k:Nat) (L:Labels D1) (a0 a1:D1):evTop ctx (galoisref03_Sub.orc k) L galoisref03_Sub.note Tryz.f49 [.data Y1 a0,.data Y1 a1] (kR [.d Y1])=galoisref03_Sub k a0 a1:=by kernel_rfl
theorem galoisref03_Sub.sound {β:Type} (k:Nat):FunOK Tryz.prog ctx 49 (galoisref03_Sub.C k:Fun β):=soundN (k:=k) (n:=galoisref03_Sub.note) ctx_ok mixed_ok (by kernel_rfl) (by kernel_rfl) (orc_sound (orc_cons galoisref03_Neg.sound (orc_cons (galoisref03_Add.sound k) orc_nil))) fun a0 a1=>(galoisref03_Sub.t k _ a0 a1).trans rfl
theorem galoislaw19_at.t (k:Nat) (L:Labels D1) (a0:D2) (a1:Int):evTop ctx (galoislaw19_at.orc k) L galoislaw19_at.note Tryz.f46 [.data Y2 a0,.data (.int .u8) a1] (kR [.d Y1])=galoislaw19_at k a0 a1:=by kernel_rfl
theorem galoislaw19_at.sound {β:Type} (k:Nat):FunOK Tryz.prog ctx 46 (galoislaw19_at.C k:Fun β):=soundN (k:=k) (n:=galoislaw19_at.note) ctx_ok mixed_ok (by kernel_rfl) (by kernel_rfl) (orc_sound (orc_cons (galoisref03_Sub.sound k) (orc_cons (galoisref03_Of.sound k) (orc_cons (galoisref03_Mul.sound k) (orc_cons (galoisref03_Add.sound k) orc_nil))))) fun a0 a1=>(galoislaw19_at.t k _ a0 a1).trans rfl
theorem enclosure_Contains.t (k:Nat) (L:Labels (Bool×Int)) (a0:D2) (a1:D1):evTop ctx (enclosure_Contains.orc k) L enclosure_Contains.note Tryz.f91 [.data Y2 a0,.data Y1 a1] (kR [.d .bool,.d (.int .i64)])=enclosure_Contains k a0 a1:=by kernel_rfl
theorem enclosure_Contains.sound {β:Type} (k:Nat):FunOK Tryz.prog ctx 91 (enclosure_Contains.C k:Fun β):=soundN (k:=k) (n:=enclosure_Contains.note) ctx_ok mixed_ok (by kernel_rfl) (by kernel_rfl) (orc_sound (orc_cons (enclosure_Check.sound k) (orc_cons (rational_Check.sound k) (orc_cons (enclosure_first.sound k) (orc_cons (ival_Contains.sound k) orc_nil))))) fun a0 a1=>(enclosure_Contains.t k _ a0 a1).trans rfl
theorem galoislaw19_has.t (k:Nat) (L:Labels Bool) (a0:D2) (a1:Int) (a2:D1):evTop ctx (galoislaw19_has.orc k) L galoislaw19_has.note Tryz.f47 [.data Y2 a0,.data (.int .i64) a1,.data Y1 a2] (kR [.d .bool])=galoislaw19_has k a0 a1 a2:=by kernel_rfl
theorem galoislaw19_has.sound {β:Type} (k:Nat):FunOK Tryz.prog ctx 47 (galoislaw19_has.C k:Fun β):=soundN (k:=k) (n:=galoislaw19_has.note) ctx_ok mixed_ok (by kernel_rfl) (by kernel_rfl) (orc_sound (orc_cons (enclosure_Contains.sound k) orc_nil)) fun a0 a1 a2=>(galoislaw19_has.t k _ a0 a1 a2).trans rfl
theorem galoisref19_FewBox.t (L:Labels Bool) (a0:D3):evTop ctx galoisref19_FewBox.orc L galoisref19_FewBox.note Tryz.f52 [.data Y3 a0] (kR [.d .bool])=galoisref19_FewBox a0:=by kernel_rfl
theorem galoisref19_FewBox.sound {β:Type}:FunOK Tryz.prog ctx 52 (galoisref19_FewBox.C:Fun β):=soundN (k:=0) (n:=galoisref19_FewBox.note) ctx_ok mixed_ok (by kernel_rfl) (by kernel_rfl) (orc_sound (orc_cons galoisref19_Few.sound orc_nil)) fun a0=>(galoisref19_FewBox.t _ a0).trans rfl
theorem ival_Real.t (k:Nat) (L:Labels D3) (a0:D2):evTop ctx (ival_Real.orc k) L ival_Real.note Tryz.f187 [.data Y2 a0] (kR [.d Y3])=ival_Real k a0:=by kernel_rfl
theorem ival_Real.sound {β:Type} (k:Nat):FunOK Tryz.prog ctx 187 (ival_Real.C k:Fun β):=soundN (k:=k) (n:=ival_Real.note) ctx_ok mixed_ok (by kernel_rfl) (by kernel_rfl) (orc_sound (orc_cons (ival_Zero.sound k) orc_nil)) fun a0=>(ival_Real.t k _ a0).trans rfl
theorem ival_parts_of.t (k:Nat) (L:Labels D3) (a1 a2:D3):evTop ctx (ival_parts_of.orc k) L ival_parts_of.note Tryz.f191 [.agr [.clo 121 []],.data Y3 a1,.data Y3 a2] (kR [.d Y3])=ival_parts_of k a1 a2:=by kernel_rfl
theorem ival_parts_of.soundD {β:Type} (k:Nat) {nx:Fun β} (hnx:FunOK Tryz.prog ctx 191 nx):FunOK Tryz.prog ctx 191 (ival_parts_of.D k nx:Fun β):=by
  intro xs κ r h
  rcases xs with _ | ⟨a0,_ | ⟨a1,_ | ⟨a2,_ | ⟨x',l'⟩⟩⟩⟩
  · exact no h
  · exact no h
  · exact no h
  · obtain ⟨x0_c,rfl,h1⟩:=A.unAgr_some h
    obtain ⟨x0_t0,rfl,h2⟩:=lst1_some h1
    rcases orN_some h2 with ⟨x0_0_c,rfl,h3⟩ | h3
    rotate_left
    · exact hnx _ _ _ h3
    obtain ⟨rfl,h4⟩:=lst0_some h3
    obtain ⟨x1,rfl,h5⟩:=A.un_some h4
    obtain ⟨x2,rfl,h6⟩:=A.un_some h5
    obtain ⟨res,hr,hf⟩:=bnd h6
    exact ⟨rsR [.d Y3] res,fun_ok' (k:=k) ctx_ok mixed_ok (f:=191) (fn:=Tryz.f191) (n:=ival_parts_of.note) (by kernel_rfl) (by kernel_rfl) (orc_sound (orc_cons (ival_Add.sound k) orc_nil)) (((ival_parts_of.t k _ x1 x2).trans rfl).trans hr) (fun rs' h=>kR_inv h),hf⟩
  · exact no h
theorem ival_parts_of.sound {β:Type} (k:Nat):FunOK Tryz.prog ctx 191 (ival_parts_of.C k:Fun β):=ival_parts_of.soundD k fun_none
theorem ival_AddBox.t (k:Nat) (L:Labels D3) (a0 a1:D3):evTop ctx (ival_AddBox.orc k) L ival_AddBox.note Tryz.f141 [.data Y3 a0,.data Y3 a1] (kR [.d Y3])=ival_AddBox k a0 a1:=by kernel_rfl
theorem ival_AddBox.sound {β:Type} (k:Nat):FunOK Tryz.prog ctx 141 (ival_AddBox.C k:Fun β):=soundN (k:=k) (n:=ival_AddBox.note) ctx_ok mixed_ok (by kernel_rfl) (by kernel_rfl) (orc_sound (orc_cons (ival_parts_of.sound k) orc_nil)) fun a0 a1=>(ival_AddBox.t k _ a0 a1).trans rfl
theorem ival_RoundBox_1.t (k:Nat) (L:Labels D2) (a0 a1:D2) (a2:Int):evTop ctx (ival_RoundBox_1.orc k) L ival_RoundBox_1.note Tryz.f192 [.data Y2 a0,.data Y2 a1,.box (.data (.int .i64) a2)] (kR [.d Y2])=ival_RoundBox_1 k a0 a1 a2:=by kernel_rfl
theorem ival_RoundBox_1.sound {β:Type} (k:Nat):FunOK Tryz.prog ctx 192 (ival_RoundBox_1.C k:Fun β):=by
  intro xs κ r h
  rcases xs with _ | ⟨a0,_ | ⟨a1,_ | ⟨a2,_ | ⟨x',l'⟩⟩⟩⟩
  · exact no h
  · exact no h
  · exact no h
  · obtain ⟨x0,rfl,h1⟩:=A.un_some h
    obtain ⟨x1,rfl,h2⟩:=A.un_some h1
    obtain ⟨x2_b,rfl,h3⟩:=A.unBox_some h2
    obtain ⟨x2,rfl,h4⟩:=A.un_some h3
    obtain ⟨res,hr,hf⟩:=bnd h4
    exact ⟨rsR [.d Y2] res,fun_ok' (k:=k) ctx_ok mixed_ok (f:=192) (fn:=Tryz.f192) (n:=ival_RoundBox_1.note) (by kernel_rfl) (by kernel_rfl) (orc_sound (orc_cons (ival_Round.sound k) orc_nil)) (((ival_RoundBox_1.t k _ x0 x1 x2).trans rfl).trans hr) (fun rs' h=>kR_inv h),hf⟩
  · exact no h
theorem ival_parts_of_v2.t (k:Nat) (L:Labels D3) (a0_0_0:Int) (a1 a2:D3):evTop ctx (ival_parts_of_v2.orc k) L ival_parts_of_v2.note Tryz.f191 [.agr [.clo 192 [.box (.data (.int .i64) a0_0_0)]],.data Y3 a1,.data Y3 a2] (kR [.d Y3])=ival_parts_of_v2 k a0_0_0 a1 a2:=by kernel_rfl
theorem ival_parts_of_v2.soundD {β:Type} (k:Nat) {nx:Fun β} (hnx:FunOK Tryz.prog ctx 191 nx):FunOK Tryz.prog ctx 191 (ival_parts_of_v2.D k nx:Fun β):=by
  intro xs κ r h
  rcases xs with _ | ⟨a0,_ | ⟨a1,_ | ⟨a2,_ | ⟨x',l'⟩⟩⟩⟩
  · exact no h
  · exact no h
  · exact no h
  · obtain ⟨x0_c,rfl,h1⟩:=A.unAgr_some h
    obtain ⟨x0_t0,rfl,h2⟩:=lst1_some h1
    rcases orN_some h2 with ⟨x0_0_c,rfl,h3⟩ | h3
    rotate_left
    · exact hnx _ _ _ h3
    obtain ⟨x0_0_t0,rfl,h4⟩:=lst1_some h3
    obtain ⟨x0_0_0_b,rfl,h5⟩:=A.unBox_some h4
    obtain ⟨x0_0_0,rfl,h6⟩:=A.un_some h5
    obtain ⟨x1,rfl,h7⟩:=A.un_some h6
    obtain ⟨x2,rfl,h8⟩:=A.un_some h7
    obtain ⟨res,hr,hf⟩:=bnd h8
    exact ⟨rsR [.d Y3] res,fun_ok' (k:=k) ctx_ok mixed_ok (f:=191) (fn:=Tryz.f191) (n:=ival_parts_of_v2.note) (by kernel_rfl) (by kernel_rfl) (orc_sound (orc_cons (ival_RoundBox_1.sound k) orc_nil)) (((ival_parts_of_v2.t k _ x0_0_0 x1 x2).trans rfl).trans hr) (fun rs' h=>kR_inv h),hf⟩
  · exact no h
theorem ival_parts_of_v2.sound {β:Type} (k:Nat):FunOK Tryz.prog ctx 191 (ival_parts_of_v2.C k:Fun β):=ival_parts_of_v2.soundD k fun_none
theorem ival_RoundBox.t (k:Nat) (L:Labels D3) (a0:D3) (a1:Int):evTop ctx (ival_RoundBox.orc k) L ival_RoundBox.note Tryz.f144 [.data Y3 a0,.data (.int .i64) a1] (kR [.d Y3])=ival_RoundBox k a0 a1:=by kernel_rfl
theorem ival_RoundBox.sound {β:Type} (k:Nat):FunOK Tryz.prog ctx 144 (ival_RoundBox.C k:Fun β):=soundN (k:=k) (n:=ival_RoundBox.note) ctx_ok mixed_ok (by kernel_rfl) (by kernel_rfl) (orc_sound (orc_cons (ival_parts_of_v2.sound k) orc_nil)) fun a0 a1=>(ival_RoundBox.t k _ a0 a1).trans rfl
theorem ival_EvalBox.t (k:Nat) (L:Labels D3) (a0:List D1) (a1:D3) (a2:Int):evTop ctx (ival_EvalBox.orc k) L ival_EvalBox.note Tryz.f134 [.data (.slice Y1) a0,.data Y3 a1,.data (.int .i64) a2] (kR [.d Y3])=ival_EvalBox.top k (ival_EvalBox.s0 L) a0 a1 a2:=by kernel_rfl
theorem ival_EvalBox.e0 (k:Nat) (L:Labels D3):ival_EvalBox.s0 (evLab ctx (ival_EvalBox.orc k) L ival_EvalBox.note Tryz.f134 3 (kR [.d Y3]))=ival_EvalBox.b0 k (ival_EvalBox.s0 L):=by kernel_rfl
theorem ival_EvalBox.run (k:Nat):∀ n,ival_EvalBox.s0 (evRun ctx (ival_EvalBox.orc k) ival_EvalBox.note Tryz.f134 3 (kR [.d Y3]) n)=ival_EvalBox.l0 k n:=run1 rfl (ival_EvalBox.e0 k) (fun _=>rfl)
theorem ival_EvalBox.sound {β:Type} (k:Nat):FunOK Tryz.prog ctx 134 (ival_EvalBox.C k:Fun β):=soundN (k:=k) (n:=ival_EvalBox.note) ctx_ok mixed_ok (by kernel_rfl) (by kernel_rfl) (orc_sound (orc_cons (ival_Zero.sound k) (orc_cons (ival_Real.sound k) (orc_cons (ival_MulBox.sound k) (orc_cons (ival_Around.sound k) (orc_cons (ival_AddBox.sound k) (orc_cons (ival_RoundBox.sound k) orc_nil))))))) fun a0 a1 a2=>(ival_EvalBox.t k (evRun ctx (ival_EvalBox.orc k) ival_EvalBox.note Tryz.f134 3 (kR [.d Y3]) k) a0 a1 a2).trans (by simp only [ival_EvalBox.run]; rfl)
theorem enclosure_EvalBox.t (k:Nat) (L:Labels (D3×Int)) (a0:List D1) (a1:D3) (a2:Int):evTop ctx (enclosure_EvalBox.orc k) L enclosure_EvalBox.note Tryz.f53 [.data (.slice Y1) a0,.data Y3 a1,.data (.int .i64) a2] (kR [.d Y3,.d (.int .i64)])=enclosure_EvalBox k a0 a1 a2:=by kernel_rfl
theorem enclosure_EvalBox.sound {β:Type} (k:Nat):FunOK Tryz.prog ctx 53 (enclosure_EvalBox.C k:Fun β):=soundN (k:=k) (n:=enclosure_EvalBox.note) ctx_ok mixed_ok (by kernel_rfl) (by kernel_rfl) (orc_sound (orc_cons (qpoly_Check.sound k) (orc_cons (enclosure_CheckBox.sound k) (orc_cons enclosure_grid.sound (orc_cons (enclosure_first.sound k) (orc_cons (ival_EvalBox.sound k) (orc_cons enclosure_box.sound orc_nil))))))) fun a0 a1 a2=>(enclosure_EvalBox.t k _ a0 a1 a2).trans rfl
theorem galoislaw19_times.t (k:Nat) (L:Labels ((List D1))) (a0 a1:List D1):evTop ctx (galoislaw19_times.orc k) L galoislaw19_times.note Tryz.f60 [.data (.arr 2 Y1) a0,.data (.arr 2 Y1) a1] (kR [.d (.arr 2 Y1)])=galoislaw19_times k a0 a1:=by kernel_rfl
theorem galoislaw19_times.sound {β:Type} (k:Nat):FunOK Tryz.prog ctx 60 (galoislaw19_times.C k:Fun β):=soundN (k:=k) (n:=galoislaw19_times.note) ctx_ok mixed_ok (by kernel_rfl) (by kernel_rfl) (orc_sound (orc_cons (galoisref03_Mul.sound k) (orc_cons (galoisref03_Sub.sound k) (orc_cons (galoisref03_Add.sound k) orc_nil)))) fun a0 a1=>(galoislaw19_times.t k _ a0 a1).trans rfl
theorem galoislaw19_EnclosureComplex.t (k:Nat) (L:Labels Bool) (a0:List D1) (a1:List D3) (a2:D4):evTop ctx (galoislaw19_EnclosureComplex.orc k) L galoislaw19_EnclosureComplex.note Tryz.f10 [.data (.slice Y1) a0,.data (.arr 2 Y3) a1,.data Y4 a2] (kR [.d .bool])=galoislaw19_EnclosureComplex.top k (galoislaw19_EnclosureComplex.s0 L) a0 a1 a2:=by kernel_rfl
theorem galoislaw19_EnclosureComplex.e0 (k:Nat) (L:Labels Bool):galoislaw19_EnclosureComplex.s0 (evLab ctx (galoislaw19_EnclosureComplex.orc k) L galoislaw19_EnclosureComplex.note Tryz.f10 3 (kR [.d .bool]))=galoislaw19_EnclosureComplex.b0 k (galoislaw19_EnclosureComplex.s1 L):=by kernel_rfl
theorem galoislaw19_EnclosureComplex.e1 (k:Nat) (L:Labels Bool):galoislaw19_EnclosureComplex.s1 (evLab ctx (galoislaw19_EnclosureComplex.orc k) L galoislaw19_EnclosureComplex.note Tryz.f10 3 (kR [.d .bool]))=galoislaw19_EnclosureComplex.b1 k (galoislaw19_EnclosureComplex.s2 L):=by kernel_rfl
theorem galoislaw19_EnclosureComplex.e2 (k:Nat) (L:Labels Bool):galoislaw19_EnclosureComplex.s2 (evLab ctx (galoislaw19_EnclosureComplex.orc k) L galoislaw19_EnclosureComplex.note Tryz.f10 3 (kR [.d .bool]))=galoislaw19_EnclosureComplex.b2 k (galoislaw19_EnclosureComplex.s2 L):=by kernel_rfl
theorem galoislaw19_EnclosureComplex.run (k:Nat):∀ n,galoislaw19_EnclosureComplex.s0 (evRun ctx (galoislaw19_EnclosureComplex.orc k) galoislaw19_EnclosureComplex.note Tryz.f10 3 (kR [.d .bool]) n)=galoislaw19_EnclosureComplex.l0 k n∧galoislaw19_EnclosureComplex.s1 (evRun ctx (galoislaw19_EnclosureComplex.orc k) galoislaw19_EnclosureComplex.note Tryz.f10 3 (kR [.d .bool]) n)=galoislaw19_EnclosureComplex.l1 k n∧galoislaw19_EnclosureComplex.s2 (evRun ctx (galoislaw19_EnclosureComplex.orc k) galoislaw19_EnclosureComplex.note Tryz.f10 3 (kR [.d .bool]) n)=galoislaw19_EnclosureComplex.l2 k n:=by
  intro n
  induction n with
  | zero=>exact ⟨rfl,rfl,rfl⟩
  | succ n ih=>exact ⟨(galoislaw19_EnclosureComplex.e0 k _).trans (by simp only [ih]; rfl),(galoislaw19_EnclosureComplex.e1 k _).trans (by simp only [ih]; rfl),(galoislaw19_EnclosureComplex.e2 k _).trans (by simp only [ih]; rfl)⟩
theorem galoislaw19_EnclosureComplex.sound {β:Type} (k:Nat):FunOK Tryz.prog ctx 10 (galoislaw19_EnclosureComplex.C k:Fun β):=soundN (k:=k) (n:=galoislaw19_EnclosureComplex.note) ctx_ok mixed_ok (by kernel_rfl) (by kernel_rfl) (orc_sound (orc_cons galoisref19_FewBox.sound (orc_cons awakeT.sound (orc_cons (galoislaw19_at.sound k) (orc_cons (enclosure_MulBox.sound k) (orc_cons (galoislaw19_times.sound k) (orc_cons (galoislaw19_has.sound k) (orc_cons (enclosure_EvalBox.sound k) (orc_cons (galoisref03_FromInt.sound k) (orc_cons (galoisref03_Add.sound k) (orc_cons (galoisref19_CheckBox.sound k) (orc_cons (galoisref19_FewPoly.sound k) (orc_cons (galoisref19_Poly.sound k) orc_nil))))))))))))) fun a0 a1 a2=>(galoislaw19_EnclosureComplex.t k (evRun ctx (galoislaw19_EnclosureComplex.orc k) galoislaw19_EnclosureComplex.note Tryz.f10 3 (kR [.d .bool]) k) a0 a1 a2).trans (by simp only [galoislaw19_EnclosureComplex.run]; rfl)
end Go.Proofs.YthghchjbomlpfaaGreat.Ev

namespace Go.Proofs.YthghchjbomlpfaaGreat.Ev
open Go.ChangeShapes Go.WideShapes Go.ChangeAt Go.RowKit
set_option linter.unusedVariables false
section
variable {P:Program} {c:Ctx} {H:Type} {enc:TypeId×Value→H} {W:World}
theorem open_arg {t:Ty} {T:TypeId} {base:Nat} {v:Value} {d:DataW H} {ps:List MemPlace} (hT:TyOK P t T) (ho:opn t=true) (hv:Value.okWide P W .any base T v)
    (h:DataW.Trod enc P W 0 (fun _=>true) true T v d ps) (hw:(d.weights P T).all (·≤reachBytes)=true):∃ x:t.den,ARel W (okW W) (.data t x) v∧Fit t x:=by
  obtain ⟨fuel,h⟩:=h
  obtain ⟨x,h1,h2⟩:=open_rel (x:=(d,ps)) hT ho h hw
  refine ⟨x,.data ⟨v.cells.toList,h1,?_⟩,h2⟩
  cases t with
  | bool=>
    simp only [TyOK] at hT
    obtain ⟨b,rfl⟩:=okWide_bool hT.1 hv
    rfl
  | int k=>
    simp only [TyOK] at hT
    obtain ⟨b,rfl⟩:=okWide_int hT.1 hv
    rfl
  | str=>
    simp only [TyOK] at hT
    obtain ⟨b,rfl⟩:=okWide_string hT.1 hv
    rfl
  | unit=>simp [TyOK] at hT
  | pair a b=>simp [TyOK] at hT
  | agg u=>
    simp only [TyOK] at hT
    obtain ⟨fs,hu,_⟩:=hT
    obtain ⟨cs,rfl,_⟩:=okWide_struct hu hv
    simp [toVal,aggT,Value.cells]
  | arr n e=>
    simp only [TyOK] at hT
    obtain ⟨E,hu,_⟩:=hT
    simp only [Value.okWide,hu] at hv
    obtain ⟨cs,rfl,_⟩:=hv
    simp [toVal,aggT,Value.cells]
  | slice e=>
    simp only [TyOK] at hT
    obtain ⟨E,hu,_⟩:=hT
    obtain ⟨a,l,k,rfl⟩:=okWide_slice hu hv
    rfl
theorem sized_arg {ts:List TypeId} {ds:List (DataW H)} (h:(DataW.weightsEach P ts ds).all (·≤reachBytes)=true) {j:Nat} {t:TypeId} {d:DataW H} (ht:ts[j]?=some t) (hd:ds[j]?=some d) :
    (d.weights P t).all (·≤reachBytes)=true:=by
  rw [List.all_eq_true] at h ⊢
  exact fun n hn=>h n (DataW.weights_mem_each ht hd n hn)
def lawK:List R→Option Bool:=fun rs=>match rs with
  | [r]=>(r.un .bool).bind some
  | _=>none
theorem lawK_inv {rs:List R} (h:lawK rs=some true):rs=[.data .bool true]:=by
  unfold lawK at h
  split at h
  · obtain ⟨x,rfl,h1⟩:=R.un_some h
    obtain rfl:=inj h1
    rfl
  · exact no h
theorem A.un_data {t:Ty} (x:t.den):(A.data t x).un t=some x:=by
  simp [A.un,castD]
theorem lookD {vs:List Value} {xs:List A} (h:ARels W (okW W) xs vs):∀ (i:Nat) a v,xs[i]?=some a→vs[i]?=some v→ARel W (okW W) a v:=by
  induction xs generalizing vs with
  | nil=>intro i a v hi; simp at hi
  | cons x xs ih=>
    cases h with
    | cons h1 h2=>
      intro i a v hi hv
      cases i with
      | zero=>
        simp only [List.getElem?_cons_zero,Option.some.injEq] at hi hv
        subst hi; subst hv; exact h1
      | succ i=>exact ih h2 i a v (by simpa using hi) (by simpa using hv)
theorem ARels.len {xs:List A} {vs:List Value} (h:ARels W (okW W) xs vs):vs.length=xs.length:=by
  induction xs generalizing vs with
  | nil=>cases h; rfl
  | cons x xs ih=>cases h with | cons h1 h2=>simp [ih h2]
theorem law_calls {f:FuncId} {F:Fun Bool} (hF:FunOK P c f F) (hm:(look c.muts f).getD []=[]) (hrun:∀ args w,(callFunc f args).run P w=.ok (.enter f args) w) {xs:List A} {vs:List Value} (hA:ARels W (okW W) xs vs)
    (h:F xs lawK=some true):Calls P f vs.toArray W fun e w'=>e=.returned (.bool true)∧Below W.heap.size W w':=by
  obtain ⟨rs,h1,h2⟩:=hF _ _ _ h
  obtain rfl:=lawK_inv h2
  rw [hm] at h1
  have h3:=h1 W (okW W) vs ⟨hA.len,by simp,fun i a v _=>lookD hA i a v,by simp,by simp,fun b hb=>hb⟩
  have fin:∀ v w',(∃ rs1 us rvs ok',[R.data .bool true]=rs1++us∧(∀ r∈rs1,isUpd r=false)∧v=pack rvs∧Post W (okW W) [] xs vs rs1 us rvs w' ok')→v=.bool true∧Below W.heap.size W w':=by
    rintro v w' ⟨rs1,us,rvs,ok',he,hu,rfl,hp⟩
    have hus:us=[]:=by
      have:=hp.upd
      cases this
      rfl
    subst hus
    simp only [List.append_nil] at he
    subst he
    have hres:=hp.res
    cases hres with
    | cons hr hres=>
      cases hres
      obtain ⟨cs,g1,rfl⟩:=hr
      simp only [DRel] at g1
      subst g1
      refine ⟨rfl,hp.fr.os,hp.fr.tape,hp.fr.output,hp.fr.size,fun k hk=>hp.fr.block k hk ?_⟩
      rintro ⟨i,v,hi,_⟩
      simp at hi
  rcases h3 with ⟨_,h3⟩ | ⟨v,w',h3,_⟩
  · refine h3.mono fun e w' he=>?_
    cases e with
    | returned v=>
      obtain ⟨rfl,hb⟩:=fin v w' he
      exact ⟨rfl,hb⟩
    | _=>exact he.elim
  · rw [hrun] at h3; simp at h3
end
end Go.Proofs.YthghchjbomlpfaaGreat.Ev

namespace Go.Proofs.YthghchjbomlpfaaGreat.enclosureComplex
open Go.ChangeShapes Go.WideShapes Go.ChangeAt Go.RowKit Go.Proofs.YthghchjbomlpfaaGreat.Ev
set_option linter.unusedVariables false
set_option maxRecDepth 100000
theorem own:ownKnob Tryz.prog.godebug=none:=by kernel_rfl
theorem laidOut:laidOutB Tryz.prog=true:=by kernel_rfl
def Pure:Prop:=∀ x0:List D1,∀ x1:List D3,∀ x2:D4,Fit (.slice Y1) x0→Fit (.arr 2 Y3) x1→Fit Y4 x2→ ∃ k:Nat,galoislaw19_EnclosureComplex k x0 x1 x2=some true
theorem run (args:Array Value) (w:World):(callFunc 10 args).run Tryz.prog w=.ok (.enter 10 args) w:=by
  obtain ⟨b,hb⟩:∃ b,Tryz.f10.body=some b:=⟨_,rfl⟩
  exact run_enter (fn:=Tryz.f10) (by kernel_rfl) hb (by kernel_rfl) args w
theorem lifted (hP:Pure) (os:Os) (started:os.Started) (H:Type) (enc:TypeId×Value→H) :
    ReturnsInHanded {} Tryz.checked os 10 .any (Rows.enclosureComplexSpec.pre6 enc Tryz.prog Tryz.f10 Rows.enclosureComplexRow.domain false) (Rows.enclosureComplexSpec.post enc Tryz.prog Tryz.f10 false true false false):=by
  refine returnsInHanded_of_change_sized (C:=Tryz.checked) own started (by kernel_rfl) Tryz.func10
    (ChangeSpec.witness6 (enc:=enc) (C:=Tryz.checked) false ⟨#[],#[.slice none 0 0,.agg #[.bool false,.string ByteArray.empty,.string ByteArray.empty,.bool false,.string ByteArray.empty,.string ByteArray.empty,.bool false,.string ByteArray.empty,.string ByteArray.empty,.bool false,.string ByteArray.empty,.string ByteArray.empty,.bool false,.string ByteArray.empty,.string ByteArray.empty,.bool false,.string ByteArray.empty,.string ByteArray.empty,.bool false,.string ByteArray.empty,.string ByteArray.empty,.bool false,.string ByteArray.empty,.string ByteArray.empty],.agg #[.int .u8 0,.int .u8 0,.int .u8 0]],[]⟩ 8 (by kernel_rfl) (by kernel_rfl) (by kernel_rfl) (by kernel_rfl)) ?_
  intro W base args ds gs before hval0 hW hcnd hsz0 _
  have hsz:(DataW.weightsEach Tryz.prog (Tryz.f10.params.toList++Rows.enclosureComplexSpec.plain.varTypes Tryz.prog) (ds++gs)).all (·≤reachBytes)=true:=hsz0
  have hval:∀ (j:Nat) t v,Tryz.f10.params[j]?=some t→args[j]?=some v→Value.okWide Tryz.prog W .any base t v:=hval0
  have hW':=hW
  obtain ⟨p,q,hA0,hV,rfl,hfz,hnd⟩:=hW
  have hA:DataW.TrodAll enc Tryz.prog W 0 (fun _=>true) true Tryz.f10.params.toList args.toList ds p:=hA0
  rw [Tryz.params10] at hA hval hsz
  obtain ⟨v0,vs0,d0,ds0,p0,q0,hargs,rfl,rfl,h0,r0⟩:=trodAll_cons hA
  obtain ⟨v1,vs1,d1,ds1,p1,q1,rfl,rfl,rfl,h1,r1⟩:=trodAll_cons r0
  obtain ⟨v2,vs2,d2,ds2,p2,q2,rfl,rfl,rfl,h2,r2⟩:=trodAll_cons r1
  obtain ⟨rfl,rfl,rfl⟩:=trodAll_nil r2
  obtain rfl:args=#[v0,v1,v2]:=by cases args; simp_all
  obtain ⟨rfl,rfl⟩:=trodVars_none hV
  have lt0:∀ x∈p0,x.block < W.heap.size:=by obtain ⟨m,hm⟩:=h0; exact DataW.trod_lt m _ _ _ hm
  obtain ⟨x0,a0,f0⟩:=open_arg (t:=(.slice Y1)) (T:=39) (ctx_ok.tab 39 _ 40 rfl) rfl (hval 0 39 v0 rfl rfl) h0 (sized_arg hsz (j:=0) (t:=39) rfl rfl)
  have lt1:∀ x∈p1,x.block < W.heap.size:=by obtain ⟨m,hm⟩:=h1; exact DataW.trod_lt m _ _ _ hm
  obtain ⟨x1,a1,f1⟩:=open_arg (t:=(.arr 2 Y3)) (T:=81) (ctx_ok.tab 81 _ 0 rfl) rfl (hval 1 81 v1 rfl rfl) h1 (sized_arg hsz (j:=1) (t:=81) rfl rfl)
  have lt2:∀ x∈p2,x.block < W.heap.size:=by obtain ⟨m,hm⟩:=h2; exact DataW.trod_lt m _ _ _ hm
  obtain ⟨x2,a2,f2⟩:=open_arg (t:=Y4) (T:=64) (ctx_ok.tab 64 _ 0 rfl) rfl (hval 2 64 v2 rfl rfl) h2 (sized_arg hsz (j:=2) (t:=64) rfl rfl)
  obtain ⟨k,hk⟩:=hP x0 x1 x2 f0 f1 f2
  have hC:galoislaw19_EnclosureComplex.C k [.data (.slice Y1) x0,.data (.arr 2 Y3) x1,.data Y4 x2] lawK=some true:=by
    exact (show galoislaw19_EnclosureComplex.C k [.data (.slice Y1) x0,.data (.arr 2 Y3) x1,.data Y4 x2] lawK=(galoislaw19_EnclosureComplex k x0 x1 x2).bind (fun r=>lawK [.data .bool r]) from by kernel_rfl).trans (by rw [hk]; rfl)
  have hw:=law_calls (vs:=[v0,v1,v2]) (galoislaw19_EnclosureComplex.sound k ) rfl run (.cons a0 (.cons a1 (.cons a2 .nil))) hC
  clear hA0 hval0 hsz0 hsz
  refine hw.mono fun e W' ⟨he,bel⟩=>?_
  subst he
  exact ⟨_,rfl,_,_,_,[],_,[],hW',trodAll_mk1 (shut_bool Tryz.underlying4 _),(trodAll_cons_mk (Below.trod laidOut (by kernel_rfl) (of_decide_eq_true (by kernel_rfl)) h0 bel lt0) (trodAll_cons_mk (Below.trod laidOut (by kernel_rfl) (of_decide_eq_true (by kernel_rfl)) h1 bel lt1) (trodAll_cons_mk (Below.trod laidOut (by kernel_rfl) (of_decide_eq_true (by kernel_rfl)) h2 bel lt2) trodAll_mk0))),rfl,bel.frame _,fun h=>by cases h⟩
theorem over (hP:Pure):Rows.enclosureComplexRow.holds Tryz.pinned (OpenSpec.ofChange Rows.enclosureComplexSpec):=
  OpenClaim.holds_of_wide 10 Tryz.f10 rfl rfl rfl rfl rfl rfl rfl ⟨rfl,rfl,rfl,rfl,rfl⟩ rfl rfl rfl rfl rfl (by kernel_rfl) Tryz.func10 (by kernel_rfl)
    (of_decide_eq_true (by kernel_rfl)) (by unfold Func.isWrapper; first | (rw [if_pos (by decide +kernel)]; kernel_rfl) | (rw [if_neg (by decide +kernel)]; exact ⟨rfl,rfl⟩))
    (fun os started H enc _=>lifted hP os started H enc)
theorem said (hP:Pure):Rows.EnclosureComplexSaid:=over hP
end Go.Proofs.YthghchjbomlpfaaGreat.enclosureComplex

namespace Go.Proofs.YthghchjbomlpfaaGreat.enclosureComplex
open Go.Proofs.YthghchjbomlpfaaGreat.Ev
set_option linter.unusedVariables false
theorem outB_of {m:Nat} {i:B2} {r:BxT×Int} (h:OutB 0 (BQ m i) r) (s:BSz 1024 i):∃ v,r=(v,0)∧BQ m i v:=by
  rcases h with ⟨h,_⟩ | ⟨_,v,hv,rfl⟩
  · exact absurd rfl h
  · refine ⟨v,?_,hv⟩
    unfold outB largeB
    rw [large_of hv.1 s.1,large_of hv.2 s.2]; rfl
theorem fewBox_true {x:BxT} (h:galoisref19_FewBox x=some true):galoisref19_Few x.1=some true∧galoisref19_Few x.2=some true:=by
  unfold galoisref19_FewBox at h
  obtain ⟨b,hb⟩:=few_eq x.1
  obtain ⟨c,hc⟩:=few_eq x.2
  simp only [hb,hc,Option.bind_some] at h
  cases b
  · simp at h
  · cases c
    · simp at h
    · exact ⟨hb,hc⟩
theorem times_ok {m m':Nat} {z w:C2} {u1 u2 w1 w2:RT} (h1:RQ z.1 u1) (h2:RQ z.2 u2) (g1:RQ w.1 w1) (g2:RQ w.2 w2) (s:Sz m z.1∧Sz m z.2) (s':Sz m' w.1∧Sz m' w.2) (hm:m≤1073741824) (hm':m'≤1073741824) :
    Res (fun k=>galoislaw19_times k [u1,u2] [w1,w2]) fun r=>∃ a b,r=[a,b]∧RQ (cmul z w).1 a∧RQ (cmul z w).2 b:=by
  unfold galoislaw19_times
  refine Res.bind (rmulQ h1 g1 s.1 s'.1 (by omega) (by omega)) fun a ha=>?_
  refine Res.bind (rmulQ h2 g2 s.2 s'.2 (by omega) (by omega)) fun b hb=>?_
  refine Res.bind (rsubQ ha hb (s.1.mul s'.1) (s.2.mul s'.2) (by omega) (by omega)) fun c hc=>?_
  refine Res.bind (rmulQ h1 g2 s.1 s'.2 (by omega) (by omega)) fun d hd=>?_
  refine Res.bind (rmulQ h2 g1 s.2 s'.1 (by omega) (by omega)) fun e he=>?_
  refine Res.bind (raddQ hd he (s.1.mul s'.2) (s.2.mul s'.1) (by omega) (by omega)) fun f hf=>?_
  exact Res.pure ⟨c,f,rfl,hc,hf⟩
theorem bits0 {b:Nat} (hb:b < 80):bitsE (b:Int)=0:=by unfold bitsE; rw [if_neg (by omega)]
theorem loop (l:List RT) (vs:List Rat) (hv:LQ 12 vs l) (h7:l.length≤7) {i:B2} {z:C2} (hi:BBd 12 i) (hz:bmem i z) (sz:Sz 39 z.1∧Sz 39 z.2) {u1 u2:RT} (h1:RQ z.1 u1) (h2:RQ z.2 u2)
    {j:B2} {v:BxT} {m:Nat} (hq:BQ m j v) (hs:BSz 1024 j) (hd:DyB j) (hm:bmem j (cEval vs z)):∀ (t:Nat) (o1 o2:RT),t≤l.length→RQ (cEval (vs.drop t) z).1 o1→RQ (cEval (vs.drop t) z).2 o2 →
    Res2 (fun k n=>galoislaw19_EnclosureComplex.l2 k n 0 ((t:Int) - 1) l [u1,u2] [o1,o2] v) (·=true):=by
  intro t
  have hvl:vs.length≤7:=by rw [hv.1]; exact h7
  induction t with
  | zero=>
    intro o1 o2 ht g1 g2
    refine Res2.succ (g:=fun k n=>galoislaw19_EnclosureComplex.b2 k (galoislaw19_EnclosureComplex.l2 k n) 0 (((0:Nat):Int) - 1) l [u1,u2] [o1,o2] v) (fun _ _=>rfl) ?_
    unfold galoislaw19_EnclosureComplex.b2
    simp only [bn (show ¬ 0≤((0:Nat):Int) - 1 by omega)]
    obtain ⟨s1,s2⟩:=sz_ceval hi hz sz vs hvl hv.sz
    refine Res2.call (has_ok hq.1 hs.1 hd.1 g1 (s1.mono (by omega)) hm.1).res fun _ h=>?_
    subst h
    simp only [cond_true]
    refine Res2.call (has_ok hq.2 hs.2 hd.2 g2 (s2.mono (by omega)) hm.2).res fun _ h=>?_
    subst h
    exact Res2.pure rfl
  | succ t ih=>
    intro o1 o2 ht g1 g2
    obtain ⟨hc,sc⟩:=hv.2 t (by omega)
    refine Res2.succ (g:=fun k n=>galoislaw19_EnclosureComplex.b2 k (galoislaw19_EnclosureComplex.l2 k n) 0 (((t+1:Nat):Int) - 1) l [u1,u2] [o1,o2] v) (fun _ _=>rfl) ?_
    unfold galoislaw19_EnclosureComplex.b2
    have e0:((t+1:Nat):Int) - 1=(t:Int):=by omega
    have c1:(0:Int)≤t∧(t:Int) < (l.length:Int):=⟨by omega,by omega⟩
    have e1:IntKind.wrap .i64 ((t:Int) - 1)=(t:Int) - 1:=wi _ (by omega) (by omega)
    simp only [e0,bp c1.1,if_pos c1,Int.toNat_natCast,e1]
    have dl:(vs.drop (t+1)).length≤7:=by rw [List.length_drop]; omega
    have so:=sz_cway sz (vs.drop (t+1)) (fun c hc=>hv.sz c (List.mem_of_mem_drop hc)) dl
    have lim:93*2 ^ (vs.drop (t+1)).length≤93*2 ^ 7:=Nat.mul_le_mul_left _ (Nat.pow_le_pow_right (by omega) dl)
    have so':Sz 11904 (cEval (vs.drop (t+1)) z).1∧Sz 11904 (cEval (vs.drop (t+1)) z).2:=⟨so.1.mono (by omega),so.2.mono (by omega)⟩
    refine Res2.call (times_ok g1 g2 h1 h2 so' sz (by omega) (by omega)) ?_
    rintro _ ⟨a,b,rfl,ha,hb⟩
    refine Res2.call (raddQ ha hc ((so'.1.mul sz.1).sub (so'.2.mul sz.2)) sc (by omega) (by omega)) fun c hc'=>?_
    have e2:cEval (vs.drop t) z=((cmul (cEval (vs.drop (t+1)) z) z).1+vs.getD t 0,(cmul (cEval (vs.drop (t+1)) z) z).2):=by
      rw [drop_getD vs 0 t (by rw [hv.1]; omega)]; rfl
    exact ih c b (by omega) (by rw [e2]; exact hc') (by rw [e2]; exact hb)
theorem body (l:List RT) (s:Int×Int×Int) (hs:Fit Y4 s) (x y:BxT) (t:Bool)
    (ht:t=false→galoisref19_FewBox x=some true∧galoisref19_FewBox y=some true∧chkB x=0∧chkB y=0∧l.length≤7∧LQ 12 (l.map rv) l∧polyE l=0) :
    Res2 (fun k n=>galoislaw19_EnclosureComplex.l0 k n t l s x y) (·=true):=by
  refine Res2.succ (g:=fun k n=>galoislaw19_EnclosureComplex.b0 k (galoislaw19_EnclosureComplex.l1 k n) t l s x y) (fun _ _=>rfl) ?_
  unfold galoislaw19_EnclosureComplex.b0
  cases t with
  | true=>exact Res2.pure rfl
  | false=>
    obtain ⟨fx,fy,cx,cy,h7,hl,hp⟩:=ht rfl
    obtain ⟨fx1,fx2⟩:=fewBox_true fx
    obtain ⟨fy1,fy2⟩:=fewBox_true fy
    obtain ⟨cx1,cx2⟩:=chkB_zero cx
    obtain ⟨cy1,cy2⟩:=chkB_zero cy
    have qx1:=chkE_short cx1 fx1
    have qx2:=chkE_short cx2 fx2
    have qy1:=chkE_short cy1 fy1
    have qy2:=chkE_short cy2 fy2
    have f1:=fit_u8 (show Fit (.int .u8) s.1 from hs.1)
    have f2:=fit_u8 (show Fit (.int .u8) s.2.1 from hs.2.1)
    have f3:=fit_u8 (show Fit (.int .u8) s.2.2 from hs.2.2)
    obtain ⟨a0,a1⟩:=tmod17 f1.1
    obtain ⟨b0,b1⟩:=tmod17 f2.1
    obtain ⟨bits,hbits,hb⟩:=bits80 f3
    simp only [cond_false]
    refine Res2.call (at_ok qx1 s.1 a0 a1) fun u1 hu1=>?_
    refine Res2.call (at_ok qx2 s.2.1 b0 b1) fun u2 hu2=>?_
    refine Res2.call (at_ok qy1 s.2.1 b0 b1) fun w1 hw1=>?_
    refine Res2.call (at_ok qy2 s.1 a0 a1) fun w2 hw2=>?_
    have su:Sz 39 (atV (iV x.1) (Int.tmod s.1 17))∧Sz 39 (atV (iV x.2) (Int.tmod s.2.1 17)):=⟨sz_at qx1.isz a0 a1,sz_at qx2.isz b0 b1⟩
    have sw:Sz 39 (atV (iV y.1) (Int.tmod s.2.1 17))∧Sz 39 (atV (iV y.2) (Int.tmod s.1 17)):=⟨sz_at qy1.isz b0 b1,sz_at qy2.isz a0 a1⟩
    have mu:bmem (bV x) (atV (iV x.1) (Int.tmod s.1 17),atV (iV x.2) (Int.tmod s.2.1 17)):=⟨mem_at (i:=iV x.1) (chkE_zero cx1).2.2.2.2 a0 a1,mem_at (i:=iV x.2) (chkE_zero cx2).2.2.2.2 b0 b1⟩
    have mw:bmem (bV y) (atV (iV y.1) (Int.tmod s.2.1 17),atV (iV y.2) (Int.tmod s.1 17)):=⟨mem_at (i:=iV y.1) (chkE_zero cy1).2.2.2.2 b0 b1,mem_at (i:=iV y.2) (chkE_zero cy2).2.2.2.2 a0 a1⟩
    have bx:BBd 12 (bV x):=⟨qx1.isz.bd,qx2.isz.bd⟩
    have e2:fstL [chkB x,chkB y]=0:=fstL_zero.2 (by simp [cx,cy])
    refine Res2.call (encMulBox_ok x y) fun r1 h1=>?_
    rw [e2] at h1
    have zm:BSz 1024 (bMul (bV x) (bV y)):=⟨((qx1.isz.mul qy1.isz).sub (qx2.isz.mul qy2.isz)).mono (by omega),((qx1.isz.mul qy2.isz).add (qx2.isz.mul qy1.isz)).mono (by omega)⟩
    obtain ⟨v,rfl,qv⟩:=outB_of h1 zm
    have dm:DyB (bMul (bV x) (bV y)):=by
      have d1:=chkE_dy cx1
      have d2:=chkE_dy cx2
      have d3:=chkE_dy cy1
      have d4:=chkE_dy cy2
      exact ⟨(d1.mul d3).sub (d2.mul d4),(d1.mul d4).add (d2.mul d3)⟩
    refine Res2.of_eq (g:=fun k n=>(galoislaw19_times k [u1,u2] [w1,w2]).bind fun t9=>(galoislaw19_has k v.1 0 (List.getD t9 0 zR)).bind fun t10=>bif !t10 then (galoislaw19_EnclosureComplex.l1 k n true l s x [u1,u2] t9) else ((galoislaw19_has k v.2 0 (List.getD t9 1 zR)).bind fun t20=>galoislaw19_EnclosureComplex.l1 k n (!t20) l s x [u1,u2] t9)) ?_ (fun k n=>rfl)
    refine Res2.call (times_ok (z:=(atV (iV x.1) (Int.tmod s.1 17),atV (iV x.2) (Int.tmod s.2.1 17))) (w:=(atV (iV y.1) (Int.tmod s.2.1 17),atV (iV y.2) (Int.tmod s.1 17))) hu1 hu2 hw1 hw2 su sw (by omega) (by omega)) ?_
    rintro _ ⟨a,b,rfl,ha,hb'⟩
    have mm:=bmem_mul mu mw
    refine Res2.call (has_ok qv.1 zm.1 dm.1 ha (((su.1.mul sw.1).sub (su.2.mul sw.2)).mono (by omega)) mm.1).res fun _ h=>?_
    subst h
    simp only [Bool.not_true,cond_false]
    refine Res2.call (has_ok qv.2 zm.2 dm.2 hb' (((su.1.mul sw.2).add (su.2.mul sw.1)).mono (by omega)) mm.2).res fun _ h=>?_
    subst h
    simp only [Bool.not_true]
    refine Res2.succ (g:=fun k n=>galoislaw19_EnclosureComplex.b1 k (galoislaw19_EnclosureComplex.l2 k n) false l s x [u1,u2] [a,b]) (fun _ _=>rfl) ?_
    unfold galoislaw19_EnclosureComplex.b1
    simp only [cond_false,hbits]
    refine Res2.call (encEvalBox_ok x bits l h7) fun r2 h2=>?_
    rw [show fstL [polyE l,chkB x,bitsE bits]=0 from fstL_zero.2 (by simp [cx,hp,bits0 hb]),Int.toNat_natCast] at h2
    have hvl:(l.map rv).length≤7:=by rw [List.length_map]; exact h7
    have ze:=sz_bEval bx bits (by omega) (l.map rv) hvl fun c hc=>Bd.of_sz (hl.sz c hc)
    have ze':BSz 1024 (bEval (l.map rv) (bV x) bits):=⟨ze.1.mono (by omega),ze.2.mono (by omega)⟩
    obtain ⟨v2,rfl,qv2⟩:=outB_of h2 ze'
    refine Res2.call (rFromIntQ 0 (by decide) (by decide)) fun z1 hz1=>?_
    refine Res2.call (rFromIntQ 0 (by decide) (by decide)) fun z2 hz2=>?_
    rw [wi _ (by omega) (by omega)]
    refine loop l (l.map rv) hl h7 bx mu su hu1 hu2 qv2 ze' (dy_bEval _ _ _) (bmem_eval bits mu _) l.length z1 z2 (Nat.le_refl _) ?_ ?_
    · rw [List.drop_of_length_le (by rw [List.length_map]; omega)]; exact hz1
    · rw [List.drop_of_length_le (by rw [List.length_map]; omega)]; exact hz2
theorem pure:Pure:=fun l a s _ _ fs=>by
  have h:Res (fun k=>galoislaw19_EnclosureComplex k l a s) (·=true):=by
    unfold galoislaw19_EnclosureComplex galoislaw19_EnclosureComplex.top
    obtain ⟨b,hb⟩:=fewBox_eq (List.getD a 0 zB)
    obtain ⟨c,hc⟩:=fewBox_eq (List.getD a 1 zB)
    simp only [hb,hc,Option.bind_some]
    have tr:=fun x y=>(body l s fs x y true (fun h=>by simp at h)).diag
    cases b
    · exact tr _ _
    · cases c
      · exact tr _ _
      · simp only [Bool.not_true,cond_false]
        refine Res.bind (rcheckBx (List.getD a 0 zB)).res fun _ h=>?_
        subst h
        by_cases h1:chkB (List.getD a 0 zB)=0
        · simp only [bnp h1]
          refine Res.bind (rcheckBx (List.getD a 1 zB)).res fun _ h=>?_
          subst h
          by_cases h2:chkB (List.getD a 1 zB)=0
          · simp only [bnp h2]
            obtain ⟨f',hf',hl'⟩:=fewPoly_full l
            refine Res.bind (R:=fun f=>f=true→l.length≤7∧∀ t,t < l.length→galoisref19_short (l.getD t zR)=some true) ⟨f',hf',hl'⟩ fun f hf=>?_
            cases f
            · exact tr _ _
            · simp only [Bool.not_true,cond_false,galoisref19_Poly,Option.bind_fun_some]
              refine Res.bind (rpolyCheck_ok l).res fun _ h=>?_
              subst h
              refine (body l s fs _ _ _ fun h=>?_).diag
              have h3:polyE l=0:=by
                rw [Bool.not_eq_false',decide_eq_true_eq] at h; exact h
              obtain ⟨g1,g2⟩:=hf rfl
              exact ⟨hb,hc,h1,h2,g1,polyE_short h3 g2,h3⟩
          · simp only [bnn h2]; exact tr _ _
        · simp only [bnn h1]; exact tr _ _
  obtain ⟨N,h⟩:=h.evt
  exact ⟨N,h N (Nat.le_refl N)⟩
end Go.Proofs.YthghchjbomlpfaaGreat.enclosureComplex
namespace Go.Proofs.YthghchjbomlpfaaGreat
/-- The statement. -/
theorem EnclosureComplexProved:Rows.EnclosureComplexSaid:=enclosureComplex.said enclosureComplex.pure
#print axioms EnclosureComplexProved
end Go.Proofs.YthghchjbomlpfaaGreat
