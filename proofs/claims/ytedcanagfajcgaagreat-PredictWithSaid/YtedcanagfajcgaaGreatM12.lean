/- M12: CsPlain, CsMeet, CsConf, Nm in one text. -/
import Derived.Test.YtedcanagfajcgaaGreatM3
set_option linter.unusedSimpArgs false
set_option linter.unusedVariables false
set_option maxRecDepth 100000
set_option maxHeartbeats 2000000
namespace Go.Proofs
theorem MM{G:Prop}(h:G:=by
  have G:=hid (show nmB s most=false from HB3.out.trans (D8 HQ.out (Acp (by omega))))
  go_wp2_with fail
  go_ret
  exact ⟨Ao (by rw [G.out]),rfl⟩):G:=h
theorem Ub{G:Prop}(h:G:=by
  go_enter Tryz.func132,Tryz.ntmps132
  go_wp2_with fail
  go_ret
  exact ⟨Ao (by rw [G.out]),rfl⟩):G:=h
theorem Uc{G:Prop}(h:G:=by
  go_enter Tryz.func115,Tryz.ntmps115
  go_wp2_with fail
  go_ret
  exact ⟨Ao (by rw [G.out]),rfl⟩):G:=h
theorem Ud{G:Prop}(h:G:=by
  unfold fall
  have:EQ (dn st) (i+1)=EQ (dn st) i+dn st i:=rfl
  omega):G:=h
theorem Yo{G:Prop}(h:G:=by
  unfold rise
  have:EQ (up st) (i+1)=EQ (up st) i+up st i:=rfl
  omega):G:=h
theorem Abj{G:Prop}(h:G:=by
  have h1:=h (i+1) (Bn _)
  rw [e0] at h1
  have h2:=ih.2 (fun k hk=>by have:=h k (by omega);rw [e] at this;omega)
  omega):G:=h
end Go.Proofs
namespace Go.Proofs.Cs
open Pf (inB)
def okS (x:Int):Prop:=0<=x∧x<=1099511627776
instance (x:Int):Decidable (okS x):=by unfold okS;infer_instance
def okW (p:Int × Int):Prop:=inB p.1∧inB p.2
instance (p:Int × Int):Decidable (okW p):=by unfold okW;infer_instance
def okT (p:Int × Int):Prop:=okS p.1∧okS p.2
instance (p:Int × Int):Decidable (okT p):=by unfold okT;infer_instance
abbrev Wins:=List (Int × Int)
def chkE (ws st:Wins):Int:=if 64<ws.length then 3 else if st.length≠ws.length - 1 then 1 else if (∀ p ∈ ws,okW p)∧∀ p ∈ st,okT p then 0 else 2
structure CsOk (ws st:Wins):Prop where
  len:ws.length<=64
  slen:st.length=ws.length - 1
  wok:∀ p ∈ ws,okW p
  tok:∀ p ∈ st,okT p
theorem csOk_of {ws st:Wins} (h:chkE ws st=0):CsOk ws st:=by
  unfold chkE at h
  by_cases h1:64<ws.length
  · rw [if_pos h1] at h;omega
  · rw [if_neg h1] at h
    by_cases h2:st.length≠ws.length - 1
    · rw [if_pos h2] at h;omega
    · rw [if_neg h2] at h
      by_cases h3:(∀ p ∈ ws,okW p)∧∀ p ∈ st,okT p
      · exact ⟨by omega,by omega,h3.1,h3.2⟩
      · rw [if_neg h3] at h;omega
theorem CsOk.err {ws st:Wins} (h:CsOk ws st):chkE ws st=0:=by
  have h1:=h.len;have h2:=h.slen
  unfold chkE
  rw [if_neg (by omega),if_neg (by omega),if_pos ⟨h.wok,h.tok⟩]
def lo (ws:Wins) (i:Nat):Int:=(ws.getD i (0,0)).1
def hi (ws:Wins) (i:Nat):Int:=(ws.getD i (0,0)).2
def up (st:Wins) (i:Nat):Int:=(st.getD i (0,0)).1
def dn (st:Wins) (i:Nat):Int:=(st.getD i (0,0)).2
theorem SC {ws:Wins} {i:Nat} (h:i<ws.length):ws[i]? = some (lo ws i,hi ws i):=by
  unfold lo hi
  rw [Dp,AQ h];rfl
theorem lo_of {ws:Wins} {i:Nat} {p:Int × Int} (h:ws[i]? = some p):lo ws i=p.1∧hi ws i=p.2:=by
  unfold lo hi
  rw [Dp,h];exact ⟨rfl,rfl⟩
theorem up_of {st:Wins} {i:Nat} {p:Int × Int} (h:st[i]? = some p):up st i=p.1∧dn st i=p.2:=lo_of h
theorem CsOk.win {ws st:Wins} (h:CsOk ws st) {i:Nat} (hi':i<ws.length):inB (lo ws i)∧inB (hi ws i)   := h.wok _ (Au (SC hi'))
theorem CsOk.step {ws st:Wins} (h:CsOk ws st) (i:Nat):okS (up st i)∧okS (dn st i):=by
  rcases Nat.lt_or_ge i st.length with hl | hl
  · exact h.tok _ (Au (SC hl))
  · unfold up dn
    rw [Dp,List.getElem?_eq_none hl]
    simp [okS]
def EQ (f:Nat→Int):Nat→Int
  | 0=>0
  | k+1=>EQ f k+f k
theorem Mo {f:Nat→Int} (h:∀ i,0<=f i) {j k:Nat} (hjk:j<=k):EQ f j<=EQ f k:=by
  induction k with
  | zero => obtain rfl:j=0:=by omega
            exact Bt _
  | succ k ih =>
    rcases Nat.lt_or_ge j (k+1) with hl | hl
    · have:=ih (by omega)
      have:=h k
      show EQ f j<=EQ f k+f k
      omega
    · obtain rfl:j=k+1:=by omega
      exact Bt _
theorem psum_bd {f:Nat→Int} (h:∀ i,okS (f i)) (k:Nat):0<=EQ f k∧EQ f k<=1099511627776 * k:=by
  induction k with
  | zero=>simp [EQ]
  | succ k ih =>
    have:=h k
    unfold okS at this
    show 0<=EQ f k+f k∧EQ f k+f k<=_
    omega
def rise (st:Wins) (i j:Nat):Int:=EQ (up st) j - EQ (up st) i
def fall (st:Wins) (i j:Nat):Int:=EQ (dn st) j - EQ (dn st) i
def exc (ws st:Wins) (i j:Nat):Int :=
  if i=j then lo ws i - hi ws i else if hi ws i<lo ws i∨hi ws j<lo ws j then 0 else max (lo ws j - (hi ws i+rise st i j)) (lo ws i - fall st i j - hi ws j)
def NoConf (ws st:Wins):Prop:=∀ i j,i<=j→j<ws.length→exc ws st i j<=0
def gH (ws st:Wins) (i k:Nat):Int:=if k<i then hi ws k+rise st k i else if i<k then hi ws k+fall st i k else hi ws i
def gL (ws st:Wins) (i k:Nat):Int:=if k<i then lo ws k - fall st k i else if i<k then lo ws k - rise st i k else lo ws i
def mn (f:Nat→Int) (a:Int):Nat→Int
  | 0=>a
  | k+1=>min (mn f a k) (f k)
def mx (f:Nat→Int) (a:Int):Nat→Int
  | 0=>a
  | k+1=>max (mx f a k) (f k)
theorem le_mn {f:Nat→Int} {a x:Int} {k:Nat}:x<=mn f a k ↔ x<=a∧∀ j,j<k→x<=f j:=by
  induction k with
  | zero=>simp [mn]
  | succ k ih =>
    show x<=min (mn f a k) (f k) ↔ _
    constructor
    · intro h
      have h1:=ih.1 (show x<=mn f a k by omega)
      refine ⟨h1.1,fun j hj=>?_⟩
      rcases Nat.lt_or_ge j k with hl | hl
      · exact h1.2 j hl
      · obtain rfl:j=k:=by omega
        omega
    · intro h
      have h1:=ih.2 ⟨h.1,fun j hj=>h.2 j (by omega)⟩;have h2:=h.2 k (by omega)
      omega
theorem mx_le {f:Nat→Int} {a x:Int} {k:Nat}:mx f a k<=x ↔ a<=x∧∀ j,j<k→f j<=x:=by
  induction k with
  | zero=>simp [mx]
  | succ k ih =>
    show max (mx f a k) (f k)<=x ↔ _
    constructor
    · intro h
      have h1:=ih.1 (show mx f a k<=x by omega)
      refine ⟨h1.1,fun j hj=>?_⟩
      rcases Nat.lt_or_ge j k with hl | hl
      · exact h1.2 j hl
      · obtain rfl:j=k:=by omega
        omega
    · intro h
      have h1:=ih.2 ⟨h.1,fun j hj=>h.2 j (by omega)⟩;have h2:=h.2 k (by omega)
      omega
def tH (ws st:Wins) (i:Nat):Int:=mn (gH ws st i) (hi ws i) ws.length
def tL (ws st:Wins) (i:Nat):Int:=mx (gL ws st i) (lo ws i) ws.length
theorem Ml {ws st:Wins} {i:Nat} {x:Int} (hi':i<ws.length):x<=tH ws st i ↔ ∀ k,k<ws.length→x<=gH ws st i k:=by
  unfold tH
  rw [le_mn]
  refine ⟨fun h=>h.2,fun h=>⟨?_,h⟩⟩
  have:=h i hi'
  unfold gH at this
  rwa [if_neg (by omega),if_neg (by omega)] at this
theorem Aba {ws st:Wins} {i:Nat} {x:Int} (hi':i<ws.length):tL ws st i<=x ↔ ∀ k,k<ws.length→gL ws st i k<=x:=by
  unfold tL
  rw [mx_le]
  refine ⟨fun h=>h.2,fun h=>⟨?_,h⟩⟩
  have:=h i hi'
  unfold gL at this
  rwa [if_neg (by omega),if_neg (by omega)] at this
theorem XD {ws st:Wins} {i k:Nat} (hi':i<ws.length) (hk:k<ws.length):tH ws st i<=gH ws st i k:=(Ml hi').1 (Bt _) k hk
def fH (ws st:Wins):Nat→Int
  | 0=>hi ws 0
  | i+1=>min (hi ws (i+1)) (fH ws st i+up st i)
def fL (ws st:Wins):Nat→Int
  | 0=>lo ws 0
  | i+1=>max (lo ws (i+1)) (fL ws st i - dn st i)
def bH (ws st:Wins) (n:Nat):Nat→Int
  | 0=>fH ws st (n - 1)
  | k+1=>min (fH ws st (n - 1 - (k+1))) (bH ws st n k+dn st (n - 1 - (k+1)))
def bL (ws st:Wins) (n:Nat):Nat→Int
  | 0=>fL ws st (n - 1)
  | k+1=>max (fL ws st (n - 1 - (k+1))) (bL ws st n k - up st (n - 1 - (k+1)))
theorem SN {ws st:Wins} {x:Int}:∀ {i:Nat},x<=fH ws st i ↔ ∀ k,k<=i→x<=hi ws k+rise st k i
  | 0 => by
    constructor
    · intro h k hk
      obtain rfl:k=0:=by omega
      simpa [rise,fH] using h
    · intro h
      simpa [rise,fH] using h 0 (Bn _)
  | i + 1=>by
    show x<=min (hi ws (i+1)) (fH ws st i+up st i) ↔ _
    have ih:=@SN ws st (x - up st i) i
    have e:∀ k,rise st k (i+1)=rise st k i+up st i:=fun k=>by unfold rise;show EQ (up st) i+up st i - _=_;omega
    have e0:rise st (i+1) (i+1)=0:=by unfold rise;omega
    constructor
    · intro h k hk
      rcases Nat.lt_or_ge k (i+1) with hl | hl
      · have:=ih.1 (by omega) k (by omega)
        rw [e];omega
      · obtain rfl:k=i+1:=by omega
        rw [e0];omega
    · intro h
      exact Abj
theorem R9 {ws st:Wins} {x:Int}:∀ {i:Nat},fL ws st i<=x ↔ ∀ k,k<=i→lo ws k - fall st k i<=x
  | 0 => by
    constructor
    · intro h k hk
      obtain rfl:k=0:=by omega
      simpa [fall,fL] using h
    · intro h
      simpa [fall,fL] using h 0 (Bn _)
  | i + 1=>by
    show max (lo ws (i+1)) (fL ws st i - dn st i)<=x ↔ _
    have ih:=@R9 ws st (x+dn st i) i
    have e:∀ k,fall st k (i+1)=fall st k i+dn st i:=fun k=>by unfold fall;show EQ (dn st) i+dn st i - _=_;omega
    have e0:fall st (i+1) (i+1)=0:=by unfold fall;omega
    constructor
    · intro h k hk
      rcases Nat.lt_or_ge k (i+1) with hl | hl
      · have:=ih.1 (by omega) k (by omega)
        rw [e];omega
      · obtain rfl:k=i+1:=by omega
        rw [e0];omega
    · intro h
      exact Abj
theorem CsOk.ups {ws st:Wins} (h:CsOk ws st):∀ i,0<=up st i:=fun i=>(h.step i).1.1
theorem CsOk.dns {ws st:Wins} (h:CsOk ws st):∀ i,0<=dn st i:=fun i=>(h.step i).2.1
theorem CsOk.rise_nn {ws st:Wins} (h:CsOk ws st) {i j:Nat} (hij:i<=j):0<=rise st i j:=by have:=Mo h.ups hij;unfold rise;omega
theorem CsOk.fall_nn {ws st:Wins} (h:CsOk ws st) {i j:Nat} (hij:i<=j):0<=fall st i j:=by have:=Mo h.dns hij;unfold fall;omega
theorem AaN {ws st:Wins} (hok:CsOk ws st) {x:Int} (hn:0<ws.length):∀ {k:Nat},k<ws.length→(x<=bH ws st ws.length k ↔ ∀ j,j<ws.length→x<=gH ws st (ws.length - 1 - k) j)
  | 0,hk=>by
    show x<=fH ws st (ws.length - 1) ↔ _
    rw [SN]
    constructor
    · intro h j hj
      have:=h j (by omega)
      unfold gH
      rcases Nat.lt_or_ge j (ws.length - 1) with hl | hl
      · rw [if_pos (by omega)];exact this
      · rw [if_neg (by omega),if_neg (by omega)]
        obtain rfl:j=ws.length - 1:=by omega
        have e:rise st (ws.length - 1) (ws.length - 1)=0:=by unfold rise;omega
        rw [e] at this
        simpa using this
    · intro h j hj
      have:=h j (by omega)
      unfold gH at this
      rcases Nat.lt_or_ge j (ws.length - 1) with hl | hl
      · rw [if_pos (by omega)] at this;exact this
      · rw [if_neg (by omega),if_neg (by omega)] at this
        obtain rfl:j=ws.length - 1:=by omega
        have e:rise st (ws.length - 1) (ws.length - 1)=0:=by unfold rise;omega
        rw [e]
        simpa using this
  | k + 1,hk=>by
    show x<=min (fH ws st (ws.length - 1 - (k+1))) (bH ws st ws.length k+dn st (ws.length - 1 - (k+1))) ↔ _
    obtain ⟨i,hi'⟩:∃ i,i=ws.length - 1 - (k+1):=⟨_,rfl⟩
    have hi1:ws.length - 1 - k=i+1:=by omega
    have ih:=@AaN ws st hok (x - dn st i) hn k (by omega)
    rw [hi1] at ih
    rw [← hi']
    have hil:i+1<ws.length:=by omega
    have ef:∀ j,fall st i j=fall st (i+1) j+dn st i:=fun j=>by
      exact Ud
    have er:∀ j,rise st j (i+1)=rise st j i+up st i:=fun j=>by
      exact Yo
    have hu:=hok.ups i;have hd:=hok.dns i
    constructor
    · intro h j hj
      have h1:x<=fH ws st i:=by omega
      have h2:=ih.1 (by omega) j hj
      rw [SN] at h1
      unfold gH at h2 ⊢
      rcases Nat.lt_trichotomy j i with hl | hl | hl
      · rw [if_pos hl];exact h1 j (by omega)
      · rw [if_neg (by omega),if_neg (by omega)]
        have:=h1 j (by omega);subst hl
        have e:rise st j j=0:=by unfold rise;omega
        rw [e] at this
        simpa using this
      · rw [if_neg (by omega),if_pos hl,ef]
        rcases Nat.lt_or_ge (i+1) j with hl2 | hl2
        · rw [if_neg (by omega),if_pos hl2] at h2;omega
        · rw [if_neg (by omega),if_neg (by omega)] at h2
          obtain rfl:j=i+1:=by omega
          have e:fall st (i+1) (i+1)=0:=by unfold fall;omega
          rw [e];omega
    · intro h
      have h1:x<=fH ws st i:=by
        rw [SN]
        intro j hj
        have:=h j (by omega)
        unfold gH at this
        rcases Nat.lt_or_ge j i with hl | hl
        · rw [if_pos hl] at this;exact this
        · rw [if_neg (by omega),if_neg (by omega)] at this
          obtain rfl:j=i:=by omega
          have e:rise st j j=0:=by unfold rise;omega
          rw [e];simpa using this
      have h2:x - dn st i<=bH ws st ws.length k:=by
        rw [ih]
        intro j hj
        have:=h j hj
        unfold gH at this ⊢
        rcases Nat.lt_trichotomy j i with hl | hl | hl
        · rw [if_pos hl] at this
          rw [if_pos (by omega),er];omega
        · rw [if_neg (by omega),if_neg (by omega)] at this
          rw [if_pos (by omega),er]
          subst hl
          have e:rise st j j=0:=by unfold rise;omega
          rw [e];omega
        · rw [if_neg (by omega),if_pos hl,ef] at this
          rcases Nat.lt_or_ge (i+1) j with hl2 | hl2
          · rw [if_neg (by omega),if_pos hl2];omega
          · rw [if_neg (by omega),if_neg (by omega)]
            obtain rfl:j=i+1:=by omega
            have e:fall st (i+1) (i+1)=0:=by unfold fall;omega
            rw [e] at this;omega
      omega
theorem Aap {ws st:Wins} (hok:CsOk ws st) {x:Int} (hn:0<ws.length):∀ {k:Nat},k<ws.length→(bL ws st ws.length k<=x ↔ ∀ j,j<ws.length→gL ws st (ws.length - 1 - k) j<=x)
  | 0,hk=>by
    show fL ws st (ws.length - 1)<=x ↔ _
    rw [R9]
    constructor
    · intro h j hj
      have:=h j (by omega)
      unfold gL
      rcases Nat.lt_or_ge j (ws.length - 1) with hl | hl
      · rw [if_pos (by omega)];exact this
      · rw [if_neg (by omega),if_neg (by omega)]
        obtain rfl:j=ws.length - 1:=by omega
        have e:fall st (ws.length - 1) (ws.length - 1)=0:=by unfold fall;omega
        rw [e] at this
        simpa using this
    · intro h j hj
      have:=h j (by omega)
      unfold gL at this
      rcases Nat.lt_or_ge j (ws.length - 1) with hl | hl
      · rw [if_pos (by omega)] at this;exact this
      · rw [if_neg (by omega),if_neg (by omega)] at this
        obtain rfl:j=ws.length - 1:=by omega
        have e:fall st (ws.length - 1) (ws.length - 1)=0:=by unfold fall;omega
        rw [e]
        simpa using this
  | k + 1,hk=>by
    show max (fL ws st (ws.length - 1 - (k+1))) (bL ws st ws.length k - up st (ws.length - 1 - (k+1)))<=x ↔ _
    obtain ⟨i,hi'⟩:∃ i,i=ws.length - 1 - (k+1):=⟨_,rfl⟩
    have hi1:ws.length - 1 - k=i+1:=by omega
    have ih:=@Aap ws st hok (x+up st i) hn k (by omega)
    rw [hi1] at ih
    rw [← hi']
    have hil:i+1<ws.length:=by omega
    have er:∀ j,rise st i j=rise st (i+1) j+up st i:=fun j=>by
      exact Yo
    have ef:∀ j,fall st j (i+1)=fall st j i+dn st i:=fun j=>by
      exact Ud
    have hu:=hok.ups i;have hd:=hok.dns i
    constructor
    · intro h j hj
      have h1:fL ws st i<=x:=by omega
      have h2:=ih.1 (by omega) j hj
      rw [R9] at h1
      unfold gL at h2 ⊢
      rcases Nat.lt_trichotomy j i with hl | hl | hl
      · rw [if_pos hl];exact h1 j (by omega)
      · rw [if_neg (by omega),if_neg (by omega)]
        have:=h1 j (by omega);subst hl
        have e:fall st j j=0:=by unfold fall;omega
        rw [e] at this
        simpa using this
      · rw [if_neg (by omega),if_pos hl,er]
        rcases Nat.lt_or_ge (i+1) j with hl2 | hl2
        · rw [if_neg (by omega),if_pos hl2] at h2;omega
        · rw [if_neg (by omega),if_neg (by omega)] at h2
          obtain rfl:j=i+1:=by omega
          have e:rise st (i+1) (i+1)=0:=by unfold rise;omega
          rw [e];omega
    · intro h
      have h1:fL ws st i<=x:=by
        rw [R9]
        intro j hj
        have:=h j (by omega)
        unfold gL at this
        rcases Nat.lt_or_ge j i with hl | hl
        · rw [if_pos hl] at this;exact this
        · rw [if_neg (by omega),if_neg (by omega)] at this
          obtain rfl:j=i:=by omega
          have e:fall st j j=0:=by unfold fall;omega
          rw [e];simpa using this
      have h2:bL ws st ws.length k<=x+up st i:=by
        rw [ih]
        intro j hj
        have:=h j hj
        unfold gL at this ⊢
        rcases Nat.lt_trichotomy j i with hl | hl | hl
        · rw [if_pos hl] at this
          rw [if_pos (by omega),ef];omega
        · rw [if_neg (by omega),if_neg (by omega)] at this
          rw [if_pos (by omega),ef]
          subst hl
          have e:fall st j j=0:=by unfold fall;omega
          rw [e];omega
        · rw [if_neg (by omega),if_pos hl,er] at this
          rcases Nat.lt_or_ge (i+1) j with hl2 | hl2
          · rw [if_neg (by omega),if_pos hl2];omega
          · rw [if_neg (by omega),if_neg (by omega)]
            obtain rfl:j=i+1:=by omega
            have e:rise st (i+1) (i+1)=0:=by unfold rise;omega
            rw [e] at this;omega
      omega
theorem AdI {ws st:Wins} (hok:CsOk ws st) {i:Nat} (hi':i<ws.length):bH ws st ws.length (ws.length - 1 - i)=tH ws st i:=by
  have e:ws.length - 1 - (ws.length - 1 - i)=i:=by omega
  have h1:∀ x,x<=bH ws st ws.length (ws.length - 1 - i) ↔ x<=tH ws st i:=fun x=>by
    rw [AaN hok (by omega) (by omega),e,Ml hi']
  have a:=(h1 _).1 (Bt _);have b:=(h1 _).2 (Bt _)
  omega
theorem AdJ {ws st:Wins} (hok:CsOk ws st) {i:Nat} (hi':i<ws.length):bL ws st ws.length (ws.length - 1 - i)=tL ws st i:=by
  have e:ws.length - 1 - (ws.length - 1 - i)=i:=by omega
  have h1:∀ x,bL ws st ws.length (ws.length - 1 - i)<=x ↔ tL ws st i<=x:=fun x=>by
    rw [Aap hok (by omega) (by omega),e,Aba hi']
  have a:=(h1 _).1 (Bt _);have b:=(h1 _).2 (Bt _)
  omega
structure Sol (ws st:Wins) (v:Nat→Int):Prop where
 win:∀ i,i<ws.length→lo ws i<=v i∧v i<=hi ws i
 stp:∀ i,i+1<ws.length→v (i+1) - v i<=up st i∧v i - v (i+1)<=dn st i
theorem rise_succ (st:Wins) (k i:Nat):rise st k (i+1)=rise st k i+up st i:=by
 exact Yo
theorem fall_succ (st:Wins) (k i:Nat):fall st k (i+1)=fall st k i+dn st i:=by
 exact Ud
theorem rise_self (st:Wins) (i:Nat):rise st i i=0:=by unfold rise;omega
theorem fall_self (st:Wins) (i:Nat):fall st i i=0:=by unfold fall;omega
theorem Sol.tele {ws st:Wins} {v:Nat→Int} (h:Sol ws st v) {k:Nat}:∀ {i:Nat},k<=i→i<ws.length→v i - v k<=rise st k i∧v k - v i<=fall st k i
 | 0,hk,_=>by
  obtain rfl:k=0:=by omega
  rw [rise_self,fall_self];omega
 | i+1,hk,hi'=>by
  rcases Nat.lt_or_ge k (i+1) with hl | hl
  ·have h1:=h.tele (show k<=i by omega) (show i<ws.length by omega)
   have h2:=h.stp i hi'
   rw [rise_succ,fall_succ];omega
  ·obtain rfl:k=i+1:=by omega
   rw [rise_self,fall_self];omega
theorem Sol.le_gH {ws st:Wins} {v:Nat→Int} (h:Sol ws st v) {i k:Nat} (hi':i<ws.length) (hk:k<ws.length):v i<=gH ws st i k∧gL ws st i k<=v i:=by
 unfold gH gL
 have hwk:=h.win k hk;have hwi:=h.win i hi'
 rcases Nat.lt_trichotomy k i with hl | hl | hl
 ·rw [if_pos hl,if_pos hl]
  have:=h.tele (show k<=i by omega) hi';omega
 ·rw [if_neg (by omega),if_neg (by omega),if_neg (by omega),if_neg (by omega)];omega
 ·rw [if_neg (show ¬ k<i by omega),if_pos hl,if_neg (show ¬ k<i by omega),if_pos hl]
  have:=h.tele (show i<=k by omega) hk;omega
theorem Sol.between {ws st:Wins} {v:Nat→Int} (h:Sol ws st v) {i:Nat} (hi':i<ws.length):tL ws st i<=v i∧v i<=tH ws st i :=
 ⟨(Aba hi').2 fun k hk=>(h.le_gH hi' hk).2,(Ml hi').2 fun k hk=>(h.le_gH hi' hk).1⟩
theorem Iw {ws st:Wins} (h:NoConf ws st) {i:Nat} (hi':i<ws.length):lo ws i<=hi ws i:=by
 have:=h i i (Bn _) hi'
 unfold exc at this
 rw [if_pos rfl] at this
 omega
theorem JO {ws st:Wins} (h:NoConf ws st) {i j:Nat} (hij:i<j) (hj:j<ws.length):lo ws j<=hi ws i+rise st i j∧lo ws i - fall st i j<=hi ws j:=by
 have h1:=h i j (by omega) hj;have h2:=Iw h (show i<ws.length by omega);have h3:=Iw h hj
 unfold exc at h1
 rw [if_neg (by omega),if_neg (by omega)] at h1
 omega
theorem Sy {ws st:Wins} (hok:CsOk ws st) {i k:Nat} (hi':i+1<ws.length):gH ws st (i+1) k<=gH ws st i k+up st i∧gH ws st i k<=gH ws st (i+1) k+dn st i:=by
 have hu:=hok.ups i;have hd:=hok.dns i
 unfold gH
 rcases Nat.lt_trichotomy k i with hl | hl | hl
 ·rw [if_pos (by omega),if_pos hl,rise_succ];omega
 ·subst hl
  rw [if_pos (by omega),if_neg (by omega),if_neg (by omega),rise_succ,rise_self];omega
 ·rw [if_neg (show ¬ k<i+1 by omega),if_neg (show ¬ k<i by omega),if_pos hl]
  have e:fall st i k=fall st (i+1) k+dn st i:=by
   exact Ud
  rcases Nat.lt_or_ge (i+1) k with hl2 | hl2
  ·rw [if_pos hl2,e];omega
  ·obtain rfl:k=i+1:=by omega
   rw [if_neg (by omega),e,fall_self];omega
theorem AcY {ws st:Wins} (h:NoConf ws st) {i:Nat} (hi':i<ws.length):lo ws i<=tH ws st i∧tH ws st i<=hi ws i:=by
 constructor
 ·rw [Ml hi']
  intro k hk
  unfold gH
  rcases Nat.lt_trichotomy k i with hl | hl | hl
  ·rw [if_pos hl];exact (JO h hl hi').1
  ·rw [if_neg (by omega),if_neg (by omega)];exact Iw h hi'
  ·rw [if_neg (by omega),if_pos hl];have:=(JO h hl hk).2;omega
 ·have:=XD (st:=st) hi' hi'
  unfold gH at this
  rwa [if_neg (by omega),if_neg (by omega)] at this
theorem sol_tH {ws st:Wins} (hok:CsOk ws st) (h:NoConf ws st):Sol ws st (tH ws st):=by
 refine ⟨fun i hi'=>AcY h hi',fun i hi'=>⟨?_,?_⟩⟩
 ·have:tH ws st (i+1) - up st i<=tH ws st i:=by
   rw [Ml (by omega)]
   intro k hk
   have h1:=XD (st:=st) hi' hk;have h2:=(Sy hok (k:=k) hi').1
   omega
  omega
 ·have:tH ws st i - dn st i<=tH ws st (i+1):=by
   rw [Ml hi']
   intro k hk
   have h1:=XD (st:=st) (show i<ws.length by omega) hk;have h2:=(Sy hok (k:=k) hi').2
   omega
  omega
def sgl (ws st:Wins) (i:Nat):Wins:=if 0<exc ws st i i then [((i:Int),(i:Int))] else []
def row (ws st:Wins) (i j:Nat):Wins:=if i<j∧0<exc ws st i j then [((i:Int),(j:Int))] else []
def sU (ws st:Wins) (i:Nat):Wins:=(List.range i).flatMap (sgl ws st)
def rU (ws st:Wins) (i j:Nat):Wins:=(List.range j).flatMap (row ws st i)
def pU (ws st:Wins) (n i:Nat):Wins:=(List.range i).flatMap fun i=>rU ws st i n
def confL (ws st:Wins):Wins:=sU ws st ws.length ++ pU ws st ws.length ws.length
theorem sU_succ (ws st:Wins) (i:Nat):sU ws st (i+1)=sU ws st i ++ sgl ws st i:=by unfold sU;rw [List.range_succ,List.flatMap_append];simp
theorem rU_succ (ws st:Wins) (i j:Nat):rU ws st i (j+1)=rU ws st i j ++ row ws st i j:=by unfold rU;rw [List.range_succ,List.flatMap_append];simp
theorem pU_succ (ws st:Wins) (n i:Nat):pU ws st n (i+1)=pU ws st n i ++ rU ws st i n:=by unfold pU;rw [List.range_succ,List.flatMap_append];simp
theorem rU_nil (ws st:Wins) (i:Nat):∀ j,j<=i+1→rU ws st i j=[]
 | 0,_=>rfl
 | j+1,h=>by
  rw [rU_succ,rU_nil ws st i j (by omega)]
  unfold row
  rw [if_neg (by omega)]
  rfl
theorem ZE (ws st:Wins) (i:Nat):(sgl ws st i).length<=1:=by unfold sgl;split <;> simp
theorem Zy (ws st:Wins) (i j:Nat):(row ws st i j).length<=1:=by unfold row;split <;> simp
theorem sU_len (ws st:Wins):∀ i,(sU ws st i).length<=i
 | 0=>by simp [sU]
 | i+1=>by
  rw [sU_succ,List.length_append]
  have:=sU_len ws st i;have:=ZE ws st i
  omega
theorem rU_len (ws st:Wins) (i:Nat):∀ j,(rU ws st i j).length<=j
 | 0=>by simp [rU]
 | j+1=>by
  rw [rU_succ,List.length_append]
  have:=rU_len ws st i j;have:=Zy ws st i j
  omega
theorem pU_len (ws st:Wins) (n:Nat):∀ i,(pU ws st n i).length<=n * i
 | 0=>by simp [pU]
 | i+1=>by
  rw [pU_succ,List.length_append,Nat.mul_succ]
  have:=pU_len ws st n i;have:=rU_len ws st i n
  omega
theorem WH {ws st:Wins} {n:Nat} {p:Int × Int}:p ∈ sU ws st n ↔ ∃ i,i<n∧0<exc ws st i i∧p=((i:Int),(i:Int)):=by
 unfold sU sgl
 simp only [List.mem_flatMap,List.mem_range]
 constructor
 ·rintro ⟨i,hi,h⟩
  split at h
  ·rename_i hc
   exact ⟨i,hi,hc,by simpa using h⟩
  ·simp at h
 ·rintro ⟨i,hi,hc,rfl⟩
  exact ⟨i,hi,by rw [if_pos hc];simp⟩
theorem WG {ws st:Wins} {n m:Nat} {p:Int × Int}:p ∈ pU ws st n m ↔ ∃ i j,i<m∧j<n∧i<j∧0<exc ws st i j∧p=((i:Int),(j:Int)):=by
 unfold pU rU row
 simp only [List.mem_flatMap,List.mem_range]
 constructor
 ·rintro ⟨i,hi,j,hj,h⟩
  split at h
  ·rename_i hc
   exact ⟨i,j,hi,hj,hc.1,hc.2,by simpa using h⟩
  ·simp at h
 ·rintro ⟨i,j,hi,hj,hij,hc,rfl⟩
  exact ⟨i,hi,j,hj,by rw [if_pos ⟨hij,hc⟩];simp⟩
theorem UB {ws st:Wins} {p:Int × Int} (h:p ∈ confL ws st):∃ i j:Nat,p=((i:Int),(j:Int))∧i<=j∧j<ws.length∧0<exc ws st i j:=by
 unfold confL at h
 rw [List.mem_append] at h
 rcases h with h | h
 ·obtain ⟨i,hi,hc,rfl⟩:=WH.1 h
  exact ⟨i,i,rfl,Bn _,hi,hc⟩
 ·obtain ⟨i,j,hi,hj,hij,hc,rfl⟩:=WG.1 h
  exact ⟨i,j,rfl,by omega,hj,hc⟩
theorem confL_nil {ws st:Wins}:confL ws st=[] ↔ NoConf ws st:=by
 constructor
 ·intro h i j hij hj
  by_cases hc:0<exc ws st i j
  ·exfalso
   have:((i:Int),(j:Int)) ∈ confL ws st:=by
    unfold confL
    rw [List.mem_append]
    rcases Nat.lt_or_ge i j with hl | hl
    ·exact .inr (WG.2 ⟨i,j,by omega,hj,hl,hc,rfl⟩)
    ·obtain rfl:i=j:=by omega
     exact .inl (WH.2 ⟨i,hj,hc,rfl⟩)
   rw [h] at this
   simp at this
  ·omega
 ·intro h
  rcases hl:confL ws st with _ | ⟨p,t⟩
  ·rfl
  ·exfalso
   obtain ⟨i,j,_,hij,hj,hc⟩:=UB (show p ∈ confL ws st by rw [hl];simp);have:=h i j hij hj
   omega
end Go.Proofs.Cs
namespace Go.Proofs.YtedcanagfajcgaaGreat
open Go.RowKit
open Go.Lib (hid)
theorem AaP {s:ByteArray} {m:Nat} (h:s.size=0):nmB s m=false:=by unfold nmB;simp [h]
theorem AaQ {s:ByteArray} {m:Nat} (h:m<s.size):nmB s m=false:=by
 unfold nmB
 have:decide (s.size<=m)=false:=BJ (by omega)
 simp [this]
theorem F8 {s:ByteArray} {k:Nat} (h:k<s.size):s.data.toList[k]? = some s[k]:=by
 have:k<s.data.toList.length:=by simpa using h
 rw [AQ this];rfl
theorem SK {s:ByteArray} (h:0<s.size):AeC s.data.toList=(decide (65<=s[0].toNat) && decide (s[0].toNat<=90)):=by
 have:=F8 h
 match hd:s.data.toList with
 | []=>rw [hd] at this;simp at this
 | c :: t =>
  rw [hd] at this
  obtain rfl:c=s[0]:=by simpa using this
  rfl
theorem AaR {s:ByteArray} {m:Nat} (h:0<s.size) (h2:¬ (65<=s[0].toNat∧s[0].toNat<=90)):nmB s m=false:=by
 unfold nmB
 rw [SK h]
 have:(decide (65<=s[0].toNat) && decide (s[0].toNat<=90))=false:=by rw [Bool.eq_false_iff];simp;omega
 rw [this];simp
theorem AaS {s:ByteArray} {m:Nat} (h:0<s.size) (h1:s.size<=m) (h2:65<=s[0].toNat∧s[0].toNat<=90):nmB s m=s.data.toList.all nmC:=by
 unfold nmB
 rw [SK h]
 simp [h,h1,h2]
theorem IW {c:UInt8}:nmC c=true ↔ (65<=c.toNat∧c.toNat<=90)∨(48<=c.toNat∧c.toNat<=57):=by unfold nmC;simp
theorem Acp {c:UInt8} (h:¬ ((65<=c.toNat∧c.toNat<=90)∨(48<=c.toNat∧c.toNat<=57))):nmC c=false:=by rw [Bool.eq_false_iff];exact fun hc=>h (IW.1 hc)
theorem AeM (s:ByteArray) (most:Nat) (w:World) (hs:s.size<=maxLen) (hm:most<=maxLen):Calls Tryz.prog 115 #[.string s,vI most] w fun e w'=>e=.returned (.bool (nmB s most))∧w=w':=by
 unfold maxLen at hs hm
 by_cases h0:s.size=0
 ·have G:=hid (AaP (m:=most) h0)
  have e1:((s.size:Int) == 0)=true:=by rw [beq_iff_eq];omega
  have e2:(s.size:Int)<1:=by omega
  exact Uc
 have hpos:0<s.size:=by omega
 have e1:((s.size:Int) == 0)=false:=Aw (by omega)
 have e2:¬ (s.size:Int)<1:=by omega
 by_cases h1:most<s.size
 ·have G:=hid (AaQ h1)
  have h1':(most:Int)<(s.size:Int):=by omega
  exact Uc
 have h1':¬ (most:Int)<(s.size:Int):=by omega
 have HH:=hid (fun h=>AaR (m:=most) hpos h);have HB2:=hid (fun h=>AaS (m:=most) hpos (by omega) h)
 by_cases h2:(s[0].toNat:Int)<65
 ·have G:=hid (HH.out (by omega))
  exact Uc
 by_cases h3:90<(s[0].toNat:Int)
 ·have G:=hid (HH.out (by omega))
  exact Uc
 have HB3:=hid (HB2.out ⟨by omega,by omega⟩);clear HH HB2
 go_enter Tryz.func115,Tryz.ntmps115
 go_wp2_with fail
 clear h2 h3 e1 e2
 go_loop [27] (fun t=>∃ k:Nat,k<=s.size∧t=vI k∧(s.data.toList.take k).all nmC=true) (fun t=>s.size - (intOf t).toNat)
 case atStart=>exact ⟨0,by omega,rfl,rfl⟩
 case round =>
  obtain ⟨k,hk,rfl,hall⟩:=hrel;have HAL:=hid hall;clear hall
  by_cases hlt:k<s.size
  rotate_left
  ·have HA:=hid (show s.data.toList.all nmC=true from C9 (by simp;omega) HAL.out)
   go_wp2_with fail
   go_ret
   exact ⟨Ao (by rw [HB3.out,HA.out]),rfl⟩
  have HQ:=hid (F8 hlt);have HT:=hid (Aq s.data.toList k s[k] (F8 hlt))
  by_cases a1:(s[k].toNat:Int)<65
  ·by_cases a2:(s[k].toNat:Int)<48
   ·have a3:¬ 57<(s[k].toNat:Int):=by omega
    exact MM
   ·by_cases a3:57<(s[k].toNat:Int)
    ·
     exact MM
    ·
     have G1:=hid (show nmC s[k]=true from IW.2 (by omega))
     go_wp2_with fail
     go_round
     case rel=>exact ⟨k+1,by omega,by go_num,BX HT.out HAL.out G1.out⟩
     case measure=>exact zMs
  ·by_cases a4:90<(s[k].toNat:Int)
   ·have a2:¬ (s[k].toNat:Int)<48:=by omega
    have a3:57<(s[k].toNat:Int):=by omega
    exact MM
   ·have a5:True:=trivial
    have G1:=hid (show nmC s[k]=true from IW.2 (by omega))
    go_wp2_with fail
    go_round
    case rel=>exact ⟨k+1,by omega,by go_num,BX HT.out HAL.out G1.out⟩
    case measure=>exact zMs
theorem Aer (s:ByteArray) (most:Nat) (w:World) (hs:s.size<=maxLen) (hm:most<=maxLen):Calls Tryz.prog 132 #[.string s,vI most] w fun e w'=>e=.returned (.bool (nmB s most))∧w=w':=by
 unfold maxLen at hs hm
 by_cases h0:s.size=0
 ·have G:=hid (AaP (m:=most) h0)
  have e1:((s.size:Int) == 0)=true:=by rw [beq_iff_eq];omega
  have e2:(s.size:Int)<1:=by omega
  exact Ub
 have hpos:0<s.size:=by omega
 have e1:((s.size:Int) == 0)=false:=Aw (by omega)
 have e2:¬ (s.size:Int)<1:=by omega
 by_cases h1:most<s.size
 ·have G:=hid (AaQ h1)
  have h1':(most:Int)<(s.size:Int):=by omega
  exact Ub
 have h1':¬ (most:Int)<(s.size:Int):=by omega
 have HH:=hid (fun h=>AaR (m:=most) hpos h);have HB2:=hid (fun h=>AaS (m:=most) hpos (by omega) h)
 by_cases h2:(s[0].toNat:Int)<65
 ·have G:=hid (HH.out (by omega))
  exact Ub
 by_cases h3:90<(s[0].toNat:Int)
 ·have G:=hid (HH.out (by omega))
  exact Ub
 have HB3:=hid (HB2.out ⟨by omega,by omega⟩);clear HH HB2
 go_enter Tryz.func132,Tryz.ntmps132
 go_wp2_with fail
 clear h2 h3 e1 e2
 go_loop [5] (fun t=>∃ k:Nat,k<=s.size∧t=vI k∧(s.data.toList.take k).all nmC=true) (fun t=>s.size - (intOf t).toNat)
 case atStart=>exact ⟨0,by omega,rfl,rfl⟩
 case round =>
  obtain ⟨k,hk,rfl,hall⟩:=hrel;have HAL:=hid hall;clear hall
  by_cases hlt:k<s.size
  rotate_left
  ·have HA:=hid (show s.data.toList.all nmC=true from C9 (by simp;omega) HAL.out)
   go_wp2_with fail
   go_ret
   exact ⟨Ao (by rw [HB3.out,HA.out]),rfl⟩
  have HQ:=hid (F8 hlt);have HT:=hid (Aq s.data.toList k s[k] (F8 hlt))
  by_cases a1:(s[k].toNat:Int)<65
  ·by_cases a2:(s[k].toNat:Int)<48
   ·have a3:¬ 57<(s[k].toNat:Int):=by omega
    exact MM
   ·by_cases a3:57<(s[k].toNat:Int)
    ·
     exact MM
    ·
     have G1:=hid (show nmC s[k]=true from IW.2 (by omega))
     go_wp2_with fail
     go_round
     case rel=>exact ⟨k+1,by omega,by go_num,BX HT.out HAL.out G1.out⟩
     case measure=>exact zMs
  ·by_cases a4:90<(s[k].toNat:Int)
   ·have a2:¬ (s[k].toNat:Int)<48:=by omega
    have a3:57<(s[k].toNat:Int):=by omega
    exact MM
   ·have a5:True:=trivial
    have G1:=hid (show nmC s[k]=true from IW.2 (by omega))
    go_wp2_with fail
    go_round
    case rel=>exact ⟨k+1,by omega,by go_num,BX HT.out HAL.out G1.out⟩
    case measure=>exact zMs
