
/- Layer 59: the check of a moment, of the program and of the reference. -/
import Derived.Test.YtgneijdjlahgbaaGreatM31
import Derived.Test.YtgneijdjlahgbaaGreatM8
import Derived.Laws.IdiomStrings
import Derived.Deep.QuietTactic
import Derived.BigQuiet
namespace Go.Proofs.YtgneijdjlahgbaaGreat
set_option maxRecDepth 100000
set_option maxHeartbeats 2000000
set_option linter.unusedSimpArgs false
set_option linter.unusedVariables false
open Go.RowKit
def er2 (p:Int × Int):List Value:=(lz2 p.1 p.2)
def erB (p:Int × Int):Bool:=inB p.1 (-2000000) 2000000 && inB p.2 (-2000000) 2000000
def chB (c:UInt8):Bool:=decide (32≤c.toNat) && decide (c.toNat≤126)
def moA (we wn se sn:Int):Bool:=inB we (-200) 200 && inB wn (-200) 200 && (inB se (-20) 20 && inB sn (-20) 20)
def moE (we wn se sn:Int) (er:List (Int × Int)) (s0 s1:ByteArray):Int :=
  if moA we wn se sn=true then
    (if 8<er.length∨120<s0.size∨120<s1.size then 3
     else if er.all erB=true then (if (s0.data.toList ++ s1.data.toList).all chB=true then 0 else 4) else 2)
  else 2
def MoRel (er:List (Int × Int)) (n:Nat) (cs:List Value) (w:World) (t:Value) (wr:World):Prop:=∃ k:Nat,k≤n∧t=.int .i64 k∧(er.take k).all erB=true∧Below w.heap.size w wr∧Has wr w.heap.size cs
theorem all_noM {α:Type} {l:List α} {f:α→Bool} {k:Nat} {q:α} (h:l[k]? = some q) (hf:f q=false):l.all f=false:=by
  rw [List.all_eq_false];exact ⟨q,List.mem_of_getElem? h,by rw [hf];decide⟩
theorem cat_data (a b:ByteArray):(a ++ b).data.toList=a.data.toList ++ b.data.toList:=by simp
theorem cat_size (a b:ByteArray):(a ++ b).data.size=a.size+b.size:=by simp [← ByteArray.size_data]
theorem xMoment (we wn se sn si:Int) (th st:Bool) (E:Option Addr) (n c:Nat) (er:List (Int × Int)) (s0 s1:ByteArray) (w:World) (he:Recs er2 2 w E n er) (hn:n≤maxLen) :
    Calls Tryz.prog 137 #[.agg #[.int .i64 we,.int .i64 wn,.slice E n c,.int .i64 se,.int .i64 sn,.int .u16 si,.bool th,.bool st,.string s0,.string s1]] w fun e w'=>e=.returned (.int .i64 (moE we wn se sn er s0 s1))∧Below w.heap.size w w':=by
  have hv:=Lib.hid (show moE we wn se sn er s0 s1=if (inB we (-200) 200 && inB wn (-200) 200 && (inB se (-20) 20 && inB sn (-20) 20))=true then
    (if 8<er.length∨120<s0.size∨120<s1.size then 3
     else if er.all erB=true then (if (s0.data.toList ++ s1.data.toList).all chB=true then 0 else 4) else 2)
    else 2 from rfl)
  have HE:=Lib.hid he
  have HL:=Lib.hid he.len
  unfold maxLen at hn
  clear he
  have hcv2:=fun w s=>run_bytes_of_string (P:=Tryz.prog) w 9 234 5 s Tryz.underlying9 Tryz.underlying234 Tryz.underlying5
  go_enter Tryz.func137,Tryz.ntmps137
  go_wp2_with fail
  refine (xIn _ _ _ _).mono ?_;rintro e w1 ⟨rfl,rfl⟩
  cases h1:inB we (-200) 200
  · have G:=Lib.hid h1
    clear h1
    go_wp2_with fail
    go_ret
    exact ⟨ret_int (by rw [hv.out,G.out];simp),bel0 w _⟩
  have H1:=Lib.hid h1
  clear h1
  go_wp2_with fail
  refine (xIn _ _ _ _).mono ?_;rintro e w1 ⟨rfl,rfl⟩
  cases h1:inB wn (-200) 200
  · have G:=Lib.hid h1
    clear h1
    go_wp2_with fail
    go_ret
    exact ⟨ret_int (by rw [hv.out,G.out];simp),bel0 w _⟩
  have H2:=Lib.hid h1
  clear h1
  go_wp2_with fail
  refine (xIn _ _ _ _).mono ?_;rintro e w1 ⟨rfl,rfl⟩
  cases h1:inB se (-20) 20
  · have G:=Lib.hid h1
    clear h1
    go_wp2_with fail
    go_ret
    exact ⟨ret_int (by rw [hv.out,G.out];simp),bel0 w _⟩
  have H3:=Lib.hid h1
  clear h1
  go_wp2_with fail
  refine (xIn _ _ _ _).mono ?_;rintro e w1 ⟨rfl,rfl⟩
  cases h1:inB sn (-20) 20
  · have G:=Lib.hid h1
    clear h1
    go_wp2_with fail
    go_ret
    exact ⟨ret_int (by rw [hv.out,G.out];simp),bel0 w _⟩
  have H4:=Lib.hid h1
  clear h1
  rw [H1.out,H2.out,H3.out,H4.out] at hv
  by_cases h1:8<n
  · have G:=Lib.hid (show 8<er.length by rw [HL.out];exact h1)
    go_wp2_with fail
    go_ret
    exact ⟨ret_int (by rw [hv.out,if_pos (by simp),if_pos (.inl G.out)]),bel0 w _⟩
  by_cases h2:120<s0.size
  · go_wp2_with fail
    go_ret
    exact ⟨ret_int (by rw [hv.out,if_pos (by simp),if_pos (.inr (.inl h2))]),bel0 w _⟩
  by_cases h3:120<s1.size
  · go_wp2_with fail
    go_ret
    exact ⟨ret_int (by rw [hv.out,if_pos (by simp),if_pos (.inr (.inr h3))]),bel0 w _⟩
  replace hv:=Lib.hid (hv.out.trans ((if_pos (by simp)).trans (if_neg (by rw [HL.out];omega))))
  go_wp2_with fail
  have BX:Hid (Has _ w.heap.size [.int .i64 we,.int .i64 wn,.slice E n c,.int .i64 se,.int .i64 sn,.int .u16 si,.bool th,.bool st,.string s0,.string s1]):=Lib.hid (Has.new w _ 172)
  have HB:=Lib.hid (bel0 w (.cells #[.int .i64 we,.int .i64 wn,.slice E n c,.int .i64 se,.int .i64 sn,.int .u16 si,.bool th,.bool st,.string s0,.string s1] 172))
  generalize w.alloc (.cells #[.int .i64 we,.int .i64 wn,.slice E n c,.int .i64 se,.int .i64 sn,.int .u16 si,.bool th,.bool st,.string s0,.string s1] 172)=w1 at *
  go_loopw [54] (fun t wr=>MoRel er n [.int .i64 we,.int .i64 wn,.slice E n c,.int .i64 se,.int .i64 sn,.int .u16 si,.bool th,.bool st,.string s0,.string s1] w t wr) (fun t _=>n - (intOf t).toNat)
  case atStart=>exact ⟨0,by omega,rfl,by simp,HB.out,BX.out⟩
  case round =>
    obtain ⟨k,hk,rfl,hall,hB,hX⟩:=hrel
    have HB1:=Lib.hid hB
    have BX1:=Lib.hid hX
    have HAL:=Lib.hid hall
    clear hall hB hX BX HB
    by_cases hlt:k<n
    · obtain ⟨q,hq⟩:=get_ex HL.out hlt
      obtain ⟨b,off,rfl,hb,hc⟩:=HE.out.cells (by omega)
      have c0:wr.cell? ⟨b,off+k * 2,none⟩=some (.int .i64 q.1):=(HB1.out.cell (p:=⟨b,_,none⟩) hb).trans (hc k q hq 0 _ rfl)
      have c1:wr.cell? ⟨b,off+k * 2+1,none⟩=some (.int .i64 q.2):=(HB1.out.cell (p:=⟨b,_,none⟩) hb).trans (hc k q hq 1 _ rfl)
      have HQ:=Lib.hid hq
      have HT:=Lib.hid (take_succ_get er k q hq)
      clear hc hq
      go_wp2_with fail
      refine (xIn _ _ _ _).mono ?_;rintro e w2 ⟨rfl,rfl⟩
      cases g1:inB q.1 (-2000000) 2000000
      · have G:=Lib.hid (show er.all erB=false from all_noM HQ.out (by rw [erB,g1];rfl))
        clear g1
        go_wp2_with fail
        go_ret
        exact ⟨ret_int (by rw [hv.out,if_neg (by rw [G.out];simp)]),bel_alloc1 HB1.out _⟩
      have G1:=Lib.hid g1
      clear g1
      go_wp2_with fail
      refine (xIn _ _ _ _).mono ?_;rintro e w2 ⟨rfl,rfl⟩
      cases g2:inB q.2 (-2000000) 2000000
      · have G:=Lib.hid (show er.all erB=false from all_noM HQ.out (by rw [erB,g2];simp))
        clear g2
        go_wp2_with fail
        go_ret
        exact ⟨ret_int (by rw [hv.out,if_neg (by rw [G.out];simp)]),bel_alloc1 HB1.out _⟩
      have G2:=Lib.hid g2
      clear g2
      go_wp2_with fail
      go_roundw
      case rel=>exact ⟨k+1,by omega,by go_num,by rw [HT.out,List.all_append,HAL.out];simp [erB,G1.out,G2.out],bel_alloc1 HB1.out _,BX1.out.alloc _⟩
      case measure=>simp only [intOf];omega
    · have HA:=Lib.hid (show er.all erB=true by have:=HAL.out;rwa [List.take_of_length_le (by rw [HL.out];omega)] at this)
      have z8:wr.cell? ⟨w.heap.size,8,none⟩=some (.string s0):=BX1.out.cell 8 _ rfl
      have z9:wr.cell? ⟨w.heap.size,9,none⟩=some (.string s1):=BX1.out.cell 9 _ rfl
      go_wp2_with fail
      have HBW:Hid (Below w.heap.size w ((wr.alloc (.cells (bytesRow (s0 ++ s1) (grownCap wr (s0.size+s1.size) 0 5)) 5 ((bytesRow (s0 ++ s1) (grownCap wr (s0.size+s1.size) 0 5)).size,(bytesRow (s0 ++ s1) (grownCap wr (s0.size+s1.size) 0 5)).size+1))).drew)):=Lib.hid (bel_alloc1 HB1.out _).drew
      have HCC:Hid (∀ (j:Nat) (hj:j<(s0 ++ s1).data.size),((wr.alloc (.cells (bytesRow (s0 ++ s1) (grownCap wr (s0.size+s1.size) 0 5)) 5 ((bytesRow (s0 ++ s1) (grownCap wr (s0.size+s1.size) 0 5)).size,(bytesRow (s0 ++ s1) (grownCap wr (s0.size+s1.size) 0 5)).size+1))).drew).cell? ⟨wr.heap.size,j,none⟩=some (.int .u8 ((s0 ++ s1).data[j].toNat:Int))) :=
        Lib.hid (fun j hj=>by rw [World.cell?_drew,World.cell?_alloc_mark,bytesRow_at _ _ j hj])
      generalize ((wr.alloc (.cells (bytesRow (s0 ++ s1) (grownCap wr (s0.size+s1.size) 0 5)) 5 ((bytesRow (s0 ++ s1) (grownCap wr (s0.size+s1.size) 0 5)).size,(bytesRow (s0 ++ s1) (grownCap wr (s0.size+s1.size) 0 5)).size+1))).drew)=w5 at *
      generalize grownCap wr (s0.size+s1.size) 0 5 = cap
      have HS:=Lib.hid (cat_data s0 s1)
      have HN:=Lib.hid (cat_size s0 s1)
      replace hv:=Lib.hid (hv.out.trans (if_pos HA.out))
      rw [← HS.out] at hv
      generalize s0 ++ s1=S at *
      clear HE HL HA HAL BX1 z8 z9 hcv2 HB1
      generalize wr.heap.size=bb at *
      go_loop [78] (fun t=>∃ k:Nat,k≤S.data.size∧t=.int .i64 k∧(S.data.toList.take k).all chB=true) (fun t=>S.data.size - (intOf t).toNat)
      case atStart=>exact ⟨0,by omega,rfl,by simp⟩
      case round =>
        obtain ⟨j,hj,rfl,hall⟩:=hrel
        have HAL:=Lib.hid hall
        have hN:=HN.out
        clear hall
        by_cases hjl:j<S.data.size
        · have cj:=HCC.out j hjl
          have HQ:=Lib.hid (show S.data.toList[j]? = some S.data[j] by rw [Array.getElem?_toList];exact Array.getElem?_eq_getElem hjl)
          have HT:=Lib.hid (take_succ_get S.data.toList j _ HQ.out)
          generalize S.data[j]=ch at *
          have cb:ch.toNat<256:=ch.toNat_lt
          have hlt:(j:Int)<(s0.size:Int)+(s1.size:Int):=by omega
          have hlt0:0≤(j:Int):=by omega
          by_cases g1:(ch.toNat:Int)<32
          · have G:=Lib.hid (show S.data.toList.all chB=false from all_noM HQ.out (by simp [chB];omega))
            clear hN
            go_wp2_with fail
            go_ret
            exact ⟨ret_int (by rw [hv.out,if_neg (by rw [G.out];simp)]),HBW.out⟩
          by_cases g2:126<(ch.toNat:Int)
          · have G:=Lib.hid (show S.data.toList.all chB=false from all_noM HQ.out (by simp [chB];omega))
            clear hN
            go_wp2_with fail
            go_ret
            exact ⟨ret_int (by rw [hv.out,if_neg (by rw [G.out];simp)]),HBW.out⟩
          have G:=Lib.hid (show chB ch=true by simp [chB];omega)
          clear hN
          go_wp2_with fail
          go_round
          case rel=>exact ⟨j+1,by omega,by go_num,by rw [HT.out,List.all_append,HAL.out];simp [G.out]⟩
          case measure=>simp only [intOf];omega
        · have HA:=Lib.hid (show S.data.toList.all chB=true by have:=HAL.out;rwa [List.take_of_length_le (by rw [Array.length_toList];omega)] at this)
          have hge:¬ (j:Int)<(s0.size:Int)+(s1.size:Int):=by omega
          clear hN
          go_wp2_with fail
          go_ret
          exact ⟨ret_int (by rw [hv.out,if_pos HA.out]),HBW.out⟩
end Go.Proofs.YtgneijdjlahgbaaGreat
