/- M31: SimChk, SpPlain, TrB, TrC in one text. -/
import Derived.Test.YtgneijdjlahgbaaGreatM1
import Derived.Test.YtgneijdjlahgbaaGreatM12
import Derived.Test.YtgneijdjlahgbaaGreatM11
import Derived.Test.YtgneijdjlahgbaaGreatM32
namespace Go.Proofs.YtgneijdjlahgbaaGreat
set_option maxRecDepth 100000
set_option maxHeartbeats 2000000
set_option linter.unusedSimpArgs false
set_option linter.unusedVariables false
open Go.RowKit
theorem bel0 (w:World) (o:Obj):Below w.heap.size w (w.alloc o):=(Below.refl _ _).alloc (Nat.le_refl _) _
theorem bel_al {w w1:World} {o:Obj} (h:Below (w.alloc o).heap.size (w.alloc o) w1):Below w.heap.size w w1:=((Below.refl _ _).alloc (Nat.le_refl _) _).trans (h.mono (by simp))
theorem xIn (n lo hi:Int) (w:World):Calls Tryz.prog 133 #[.int .i64 n,.int .i64 lo,.int .i64 hi] w fun e w'=>e=.returned (.bool (inB n lo hi))∧w=w':=by
 have hv:=Lib.hid (show inB n lo hi=(decide (lo≤n) && decide (n≤hi)) from rfl)
 by_cases h1:n<lo
 ·go_enter Tryz.func133,Tryz.ntmps133
  go_wp2
  go_ret
  exact ⟨ret_bool (by rw [hv.out,Bool.eq_iff_iff];simp;try omega),rfl⟩
 ·by_cases h2:hi<n
  ·go_enter Tryz.func133,Tryz.ntmps133
   go_wp2
   go_ret
   exact ⟨ret_bool (by rw [hv.out,Bool.eq_iff_iff];simp;try omega),rfl⟩
  ·go_enter Tryz.func133,Tryz.ntmps133
   go_wp2
   go_ret
   exact ⟨ret_bool (by rw [hv.out,Bool.eq_iff_iff];simp;try omega),rfl⟩
theorem xValid (x y:Int) (w:World):Calls Tryz.prog 144 #[.agg #[.int .i64 x,.int .i64 y]] w fun e w'=>e=.returned (.bool (ptB x y))∧Below w.heap.size w w':=by
 have hv:=Lib.hid (show ptB x y=((decide (-2000000≤x) && decide (x≤2000000)) && (decide (-2000000≤y) && decide (y≤2000000))) from rfl)
 by_cases h1:x < -2000000
 ·go_enter Tryz.func144,Tryz.ntmps144
  go_wp2
  go_ret
  exact ⟨ret_bool (by rw [hv.out,Bool.eq_iff_iff];simp;try omega),(Below.refl _ _).alloc (Nat.le_refl _) _⟩
 by_cases h2:2000000<x
 ·go_enter Tryz.func144,Tryz.ntmps144
  go_wp2
  go_ret
  exact ⟨ret_bool (by rw [hv.out,Bool.eq_iff_iff];simp;try omega),(Below.refl _ _).alloc (Nat.le_refl _) _⟩
 by_cases h3:y < -2000000
 ·go_enter Tryz.func144,Tryz.ntmps144
  go_wp2
  go_ret
  exact ⟨ret_bool (by rw [hv.out,Bool.eq_iff_iff];simp;try omega),(Below.refl _ _).alloc (Nat.le_refl _) _⟩
 by_cases h4:2000000<y
 ·go_enter Tryz.func144,Tryz.ntmps144
  go_wp2
  go_ret
  exact ⟨ret_bool (by rw [hv.out,Bool.eq_iff_iff];simp;try omega),(Below.refl _ _).alloc (Nat.le_refl _) _⟩
 ·go_enter Tryz.func144,Tryz.ntmps144
  go_wp2
  go_ret
  exact ⟨ret_bool (by rw [hv.out,Bool.eq_iff_iff];simp;try omega),(Below.refl _ _).alloc (Nat.le_refl _) _⟩
theorem xCraft (tk px py ve vn al vs hd ca fu bk:Int) (gr:Bool) (w:World):Calls Tryz.prog 83 #[.agg #[.int .i64 tk,.int .i64 px,.int .i64 py,.int .i64 ve,.int .i64 vn,.int .i64 al,.int .i64 vs,.int .i64 hd,.int .i64 ca,.int .i64 fu,.int .i64 bk,.bool gr]] w fun e w'=>e=.returned (.int .i64 (cftE tk px py ve vn al vs hd ca fu bk))∧Below w.heap.size w w':=by
 have hv:=Lib.hid (show cftE tk px py ve vn al vs hd ca fu bk=if (inB tk 0 1099511627776 && inB al (-200000) 6000000 && inB vs (-10000) 10000 && inB hd 0 129599999 && inB ca 0 1000 && inB fu 0 3000000000 && inB bk (-3000) 3000 && inB ve (-2000) 2000 && inB vn (-2000) 2000)=true then (if ptB px py=true then 0 else 1) else 2 from rfl)
 go_enter Tryz.func83,Tryz.ntmps83
 go_wp2_with fail
 refine (xIn _ _ _ _).mono ?_;rintro e w0 ⟨rfl,rfl⟩
 cases h0:inB tk 0 1099511627776
 ·have G:=Lib.hid h0
  clear h0
  go_wp2_with fail
  go_ret
  exact ⟨ret_int (by rw [hv.out,G.out];simp),bel0 w _⟩
 have H0:=Lib.hid h0
 clear h0
 go_wp2_with fail
 refine (xIn _ _ _ _).mono ?_;rintro e w1 ⟨rfl,rfl⟩
 cases h1:inB al (-200000) 6000000
 ·have G:=Lib.hid h1
  clear h1
  go_wp2_with fail
  go_ret
  exact ⟨ret_int (by rw [hv.out,G.out];simp),bel0 w _⟩
 have H1:=Lib.hid h1
 clear h1
 go_wp2_with fail
 refine (xIn _ _ _ _).mono ?_;rintro e w2 ⟨rfl,rfl⟩
 cases h2:inB vs (-10000) 10000
 ·have G:=Lib.hid h2
  clear h2
  go_wp2_with fail
  go_ret
  exact ⟨ret_int (by rw [hv.out,G.out];simp),bel0 w _⟩
 have H2:=Lib.hid h2
 clear h2
 go_wp2_with fail
 refine (xIn _ _ _ _).mono ?_;rintro e w3 ⟨rfl,rfl⟩
 cases h3:inB hd 0 129599999
 ·have G:=Lib.hid h3
  clear h3
  go_wp2_with fail
  go_ret
  exact ⟨ret_int (by rw [hv.out,G.out];simp),bel0 w _⟩
 have H3:=Lib.hid h3
 clear h3
 go_wp2_with fail
 refine (xIn _ _ _ _).mono ?_;rintro e w4 ⟨rfl,rfl⟩
 cases h4:inB ca 0 1000
 ·have G:=Lib.hid h4
  clear h4
  go_wp2_with fail
  go_ret
  exact ⟨ret_int (by rw [hv.out,G.out];simp),bel0 w _⟩
 have H4:=Lib.hid h4
 clear h4
 go_wp2_with fail
 refine (xIn _ _ _ _).mono ?_;rintro e w5 ⟨rfl,rfl⟩
 cases h5:inB fu 0 3000000000
 ·have G:=Lib.hid h5
  clear h5
  go_wp2_with fail
  go_ret
  exact ⟨ret_int (by rw [hv.out,G.out];simp),bel0 w _⟩
 have H5:=Lib.hid h5
 clear h5
 go_wp2_with fail
 refine (xIn _ _ _ _).mono ?_;rintro e w6 ⟨rfl,rfl⟩
 cases h6:inB bk (-3000) 3000
 ·have G:=Lib.hid h6
  clear h6
  go_wp2_with fail
  go_ret
  exact ⟨ret_int (by rw [hv.out,G.out];simp),bel0 w _⟩
 have H6:=Lib.hid h6
 clear h6
 go_wp2_with fail
 refine (xIn _ _ _ _).mono ?_;rintro e w7 ⟨rfl,rfl⟩
 cases h7:inB ve (-2000) 2000
 ·have G:=Lib.hid h7
  clear h7
  go_wp2_with fail
  go_ret
  exact ⟨ret_int (by rw [hv.out,G.out];simp),bel0 w _⟩
 have H7:=Lib.hid h7
 clear h7
 go_wp2_with fail
 refine (xIn _ _ _ _).mono ?_;rintro e w8 ⟨rfl,rfl⟩
 cases h8:inB vn (-2000) 2000
 ·have G:=Lib.hid h8
  clear h8
  go_wp2_with fail
  go_ret
  exact ⟨ret_int (by rw [hv.out,G.out];simp),bel0 w _⟩
 have H8:=Lib.hid h8
 clear h8
 go_wp2_with fail
 refine (xValid _ _ _).mono ?_;rintro e w9 ⟨rfl,hB⟩
 have HB:=Lib.hid hB
 clear hB
 cases h9:ptB px py
 ·have G:=Lib.hid h9
  clear h9
  go_wp2_with fail
  go_ret
  exact ⟨ret_int (by rw [hv.out,H0.out,H1.out,H2.out,H3.out,H4.out,H5.out,H6.out,H7.out,H8.out,G.out];rfl),bel_al HB.out⟩
 ·have G:=Lib.hid h9
  clear h9
  go_wp2_with fail
  go_ret
  exact ⟨ret_int (by rw [hv.out,H0.out,H1.out,H2.out,H3.out,H4.out,H5.out,H6.out,H7.out,H8.out,G.out];rfl),bel_al HB.out⟩
end Go.Proofs.YtgneijdjlahgbaaGreat

namespace Go.Proofs.Sp
set_option linter.unusedSimpArgs false
set_option linter.unusedVariables false
open Pf (okD)
abbrev Wins:=List (Int × Int)

def okV (x:Int):Prop:=0≤x∧x≤1000
instance (x:Int):Decidable (okV x):=by unfold okV;infer_instance
def okP (p:Int × Int):Prop:=okV p.1∧okV p.2
instance (p:Int × Int):Decidable (okP p):=by unfold okP;infer_instance
def stE (d:List Int) (a c:Int):Int:=if 64≤d.length then 3 else if ¬ (okV a∧okV c) then 2 else if ∀ x ∈ d,okD x then 0 else 2
def stF (a c x:Int):Int × Int:=(a * x / 6000,c * x / 6000)
def stL (d:List Int) (a c:Int):Wins:=d.map (stF a c)
theorem stE_3 {d:List Int} {a c:Int} (h:64≤d.length):stE d a c=3:=by unfold stE;rw [if_pos h]
theorem stE_2 {d:List Int} {a c:Int} (h:¬ 64≤d.length) (h2:¬ (okV a∧okV c)):stE d a c=2:=by unfold stE;rw [if_neg h,if_pos h2]
theorem stE_b {d:List Int} {a c x:Int} (h:¬ 64≤d.length) (h2:okV a∧okV c) (hx:x ∈ d) (h3:¬ okD x):stE d a c=2:=by unfold stE;rw [if_neg h,if_neg (fun k=>k h2),if_neg (fun k=>h3 (k x hx))]
theorem stE_0 {d:List Int} {a c:Int} (h:¬ 64≤d.length) (h2:okV a∧okV c) (h3:∀ x ∈ d,okD x):stE d a c=0:=by unfold stE;rw [if_neg h,if_neg (fun k=>k h2),if_pos h3]
theorem st_prod {a x:Int} (ha:okV a) (hx:okD x):0≤a * x∧a * x≤8000000000∧0≤a * x / 6000∧a * x / 6000≤1333334:=by
 unfold okV at ha
 unfold okD at hx
 have h1:0≤a * x:=Int.mul_nonneg ha.1 hx.1
 have h2:a * x≤1000 * 8000000:=Int.mul_le_mul ha.2 hx.2 hx.1 (by omega)
 refine ⟨h1,by omega,by omega,by omega⟩
def liE (zs:Wins) (al:List Int) (sp:Int):Int:=if 64<zs.length then 3 else if al.length≠zs.length then 1 else if okV sp then 0 else 2
def liF (at_ sp:Int) (p:Int × Int) (h:Int):Int × Int:=if h<at_ then (p.1,min p.2 sp) else p
def liL (zs:Wins) (al:List Int) (at_ sp:Int):Wins:=List.zipWith (liF at_ sp) zs al
theorem liE_3 {zs:Wins} {al:List Int} {sp:Int} (h:64<zs.length):liE zs al sp=3:=by unfold liE;rw [if_pos h]
theorem liE_1 {zs:Wins} {al:List Int} {sp:Int} (h:¬ 64<zs.length) (h2:al.length≠zs.length):liE zs al sp=1:=by unfold liE;rw [if_neg h,if_pos h2]
theorem liE_2 {zs:Wins} {al:List Int} {sp:Int} (h:¬ 64<zs.length) (h2:al.length=zs.length) (h3:¬ okV sp):liE zs al sp=2:=by unfold liE;rw [if_neg h,if_neg (by omega),if_neg h3]
theorem liE_0 {zs:Wins} {al:List Int} {sp:Int} (h:¬ 64<zs.length) (h2:al.length=zs.length) (h3:okV sp):liE zs al sp=0:=by unfold liE;rw [if_neg h,if_neg (by omega),if_pos h3]
theorem liL_len {zs:Wins} {al:List Int} {a s:Int} (h:al.length=zs.length):(liL zs al a s).length=zs.length:=by unfold liL;rw [List.length_zipWith];omega
theorem liL_get {zs:Wins} {al:List Int} {a s:Int} {k:Nat} {p:Int × Int} {h:Int} (hp:zs[k]? = some p) (hh:al[k]? = some h):(liL zs al a s)[k]? = some (liF a s p h):=by
 unfold liL
 rw [List.getElem?_zipWith,hp,hh]
def rdE (zs ys:Wins):Int:=if Cs.chkE zs ys≠0 then Cs.chkE zs ys else if ∀ p ∈ zs,okP p then 0 else 2
theorem rdE_c {zs ys:Wins} (h:Cs.chkE zs ys≠0):rdE zs ys=Cs.chkE zs ys:=by unfold rdE;rw [if_pos h]
theorem rdE_b {zs ys:Wins} {p:Int × Int} (h:Cs.chkE zs ys=0) (hp:p ∈ zs) (h2:¬ okP p):rdE zs ys=2:=by unfold rdE;rw [if_neg (by omega),if_neg (fun k=>h2 (k p hp))]
theorem rdE_ok {zs ys:Wins} (h:Cs.chkE zs ys=0) (h2:∀ p ∈ zs,okP p):rdE zs ys=0:=by unfold rdE;rw [if_neg (by omega),if_pos h2]
theorem rdE_0 {zs ys:Wins} (h:rdE zs ys=0):Cs.chkE zs ys=0∧∀ p ∈ zs,okP p:=by
 by_cases hc:Cs.chkE zs ys=0
 ·by_cases h2:∀ p ∈ zs,okP p
  ·exact ⟨hc,h2⟩
  ·unfold rdE at h;rw [if_neg (by omega),if_neg h2] at h;omega
 ·rw [rdE_c hc] at h;omega
def faE (zs ys:Wins) (k:Int):Int:=if rdE zs ys≠0 then rdE zs ys else if okV k then Cs.tgE zs ys else 2
def faF (k:Int) (p:Int × Int):Int:=min p.2 (p.1+k)
def faL (zs ys:Wins) (k:Int):List Int:=(Cs.tight zs ys).map (faF k)
def spE (zs ys:Wins):Int:=if rdE zs ys≠0 then rdE zs ys else Cs.tgE zs ys
def spM:Wins→Int→Int
 | [],m=>m
 | p :: t,m=>spM t (max m (p.2 - p.1))
def spV (zs ys:Wins):Int:=spM (Cs.tight zs ys) 0
theorem spM_append (l t:Wins) (m:Int):spM (l ++ t) m=spM t (spM l m):=by
 induction l generalizing m with
 | nil=>rfl
 | cons p l ih=>exact ih _
theorem faE_r {zs ys:Wins} {k:Int} (h:rdE zs ys≠0):faE zs ys k=rdE zs ys:=by unfold faE;rw [if_pos h]
theorem faE_k {zs ys:Wins} {k:Int} (h:rdE zs ys=0) (h2:¬ okV k):faE zs ys k=2:=by unfold faE;rw [if_neg (by omega),if_neg h2]
theorem faE_t {zs ys:Wins} {k:Int} (h:rdE zs ys=0) (h2:okV k):faE zs ys k=Cs.tgE zs ys:=by unfold faE;rw [if_neg (by omega),if_pos h2]
theorem spE_r {zs ys:Wins} (h:rdE zs ys≠0):spE zs ys=rdE zs ys:=by unfold spE;rw [if_pos h]
theorem spE_t {zs ys:Wins} (h:rdE zs ys=0):spE zs ys=Cs.tgE zs ys:=by unfold spE;rw [if_neg (by omega)]
theorem tight_ok {zs ys:Wins} (h:rdE zs ys=0) (ht:Cs.tgE zs ys=0) {i:Nat} (hi:i<zs.length):okV (Cs.tL zs ys i)∧okV (Cs.tH zs ys i)∧Cs.tL zs ys i≤Cs.tH zs ys i:=by
 obtain ⟨hc,hp⟩:=rdE_0 h
 have hok:=Cs.csOk_of hc
 have hnc:=Cs.confL_nil.1 (Cs.tgE_0 ht).2
 have h1:=Cs.tH_win hnc hi
 have h2:=Cs.tL_win hnc hi
 have h3:=Cs.tL_le_tH hok hnc hi
 have h4:=hp _ (List.mem_of_getElem? (Cs.get_ex2 hi))
 unfold okP okV at h4
 unfold okV
 simp only at h4
 omega
theorem tight_mem {zs ys:Wins} (h:rdE zs ys=0) (ht:Cs.tgE zs ys=0) {k:Nat} {p:Int × Int} (hp:(Cs.tight zs ys)[k]? = some p):okV p.1∧okV p.2∧p.1≤p.2:=by
 have hk:=(List.getElem?_eq_some_iff.1 hp).1
 rw [Cs.tight_len] at hk
 rw [Cs.tight_get hk] at hp
 obtain rfl:=Option.some.inj hp
 exact tight_ok h ht hk
def okG (x:Int):Prop:=1≤x∧x≤5000
instance (x:Int):Decidable (okG x):=by unfold okG;infer_instance
def tkE (d g:List Int):Int:=if d.length≠g.length then 1 else if 64<d.length then 3 else if (∀ x ∈ d,okD x)∧∀ x ∈ g,okG x then 0 else 2
def tkF (d g:Int):Int:=(d+g - 1) / g
def tkL (d g:List Int):List Int:=List.zipWith tkF d g
theorem tkE_1 {d g:List Int} (h:d.length≠g.length):tkE d g=1:=by unfold tkE;rw [if_pos h]
theorem tkE_3 {d g:List Int} (h:d.length=g.length) (h2:64<d.length):tkE d g=3:=by unfold tkE;rw [if_neg (by omega),if_pos h2]
theorem tkE_b {d g:List Int} (h:d.length=g.length) (h2:¬ 64<d.length) (h3:¬ ((∀ x ∈ d,okD x)∧∀ x ∈ g,okG x)):tkE d g=2:=by unfold tkE;rw [if_neg (by omega),if_neg h2,if_neg h3]
theorem tkE_0 {d g:List Int} (h:d.length=g.length) (h2:¬ 64<d.length) (h3:∀ x ∈ d,okD x) (h4:∀ x ∈ g,okG x):tkE d g=0:=by unfold tkE;rw [if_neg (by omega),if_neg h2,if_pos ⟨h3,h4⟩]
theorem tkE_ok {d g:List Int} (h:tkE d g=0):d.length=g.length∧d.length≤64∧(∀ x ∈ d,okD x)∧∀ x ∈ g,okG x:=by
 by_cases h1:d.length=g.length
 ·by_cases h2:64<d.length
  ·rw [tkE_3 h1 h2] at h;omega
  ·by_cases h3:(∀ x ∈ d,okD x)∧∀ x ∈ g,okG x
   ·exact ⟨h1,by omega,h3.1,h3.2⟩
   ·rw [tkE_b h1 h2 h3] at h;omega
 ·rw [tkE_1 h1] at h;omega
theorem tkL_len {d g:List Int} (h:d.length=g.length):(tkL d g).length=d.length:=by unfold tkL;rw [List.length_zipWith];omega
theorem tkL_get {d g:List Int} {k:Nat} {x y:Int} (hx:d[k]? = some x) (hy:g[k]? = some y):(tkL d g)[k]? = some (tkF x y):=by
 unfold tkL
 rw [List.getElem?_zipWith,hx,hy]
theorem tk_bd {x y:Int} (hx:okD x) (hy:okG y):0≤tkF x y∧tkF x y≤x∧x≤tkF x y * y∧(0<tkF x y→(tkF x y - 1) * y<x):=by
 unfold okD at hx
 unfold okG at hy
 unfold tkF
 have h1:=Int.emod_add_mul_ediv (x+y - 1) y
 have h2:=Int.emod_nonneg (x+y - 1) (show y≠0 by omega)
 have h3:=Int.emod_lt_of_pos (x+y - 1) (show 0<y by omega)
 have h0:0≤(x+y - 1) / y:=Int.ediv_nonneg (by omega) (by omega)
 have e:(x+y - 1) / y * y=y * ((x+y - 1) / y):=Int.mul_comm _ _
 refine ⟨h0,?_,by omega,fun _=>?_⟩
 ·rcases Int.lt_or_le x 1 with h | h
  ·obtain rfl:x=0:=by omega
   rw [Int.ediv_eq_zero_of_lt (by omega) (by omega)]
   omega
  ·have h5:x+y - 1≤x * y:=by
    have:(x - 1) * (y - 1) ≥ 0:=Int.mul_nonneg (by omega) (by omega)
    rw [Int.sub_mul,Int.mul_sub,Int.one_mul,Int.mul_one] at this
    omega
   have h6:=Int.ediv_le_ediv (show 0<y by omega) h5
   rwa [Int.mul_ediv_cancel x (by omega)] at h6
 ·rw [Int.sub_mul];omega
theorem tk_mono {x y z:Int} (hx:okD x) (hy:okG y) (hyz:y≤z):tkF x z≤tkF x y:=by
 have h1:=tk_bd hx hy
 unfold okD at hx
 unfold okG at hy
 have h2:x≤tkF x y * z:=Int.le_trans h1.2.2.1 (Int.mul_le_mul_of_nonneg_left hyz h1.1)
 unfold tkF at h2 ⊢
 have h3:x+z - 1<((x+y - 1) / y+1) * z:=by rw [Int.add_mul];omega
 have h4:=Int.ediv_lt_of_lt_mul (show 0<z by omega) h3
 omega
end Go.Proofs.Sp

namespace Go.Proofs.YtgneijdjlahgbaaGreat
set_option maxRecDepth 100000
set_option maxHeartbeats 2000000
set_option linter.unusedSimpArgs false
set_option linter.unusedVariables false
open Go.RowKit
open Tr
def ser (u:Int) (ns:List Int):Nat→Int
 | 0=>2147483648
 | k+1=>stp u (ser u ns k) (ns.getD k 2)
theorem ser_bd {u:Int} {ns:List Int} (hu:0≤u) (hU:u≤2147483648) (hn:∀ k,2≤ns.getD k 2):∀ k,0≤ser u ns k∧ser u ns k≤2147483648
 | 0=>⟨(by decide:(0:Int)≤2147483648),(by decide:(2147483648:Int)≤2147483648)⟩
 | k+1=>stp_bd hu hU (ser_bd hu hU hn k).1 (ser_bd hu hU hn k).2 (hn k)
def sinN:List Int:=[110,72,42,20,6]
def cosN:List Int:=[90,56,30,12,2]
theorem sinN_ge:∀ k,2≤sinN.getD k 2
 | 0=>by decide
 | 1=>by decide
 | 2=>by decide
 | 3=>by decide
 | 4=>by decide
 | k+5=>by simp [sinN]
theorem cosN_ge:∀ k,2≤cosN.getD k 2
 | 0=>by decide
 | 1=>by decide
 | 2=>by decide
 | 3=>by decide
 | 4=>by decide
 | k+5=>by simp [cosN]
theorem sinS_ser (a:Int):sinS a=(mul (tV a) (ser (uV a) sinN 5)+1) / 2:=rfl
theorem cosS_ser (a:Int):cosS a=(ser (uV a) cosN 5+1) / 2:=rfl
theorem ser_one (u n:Int):2147483648 - (u+n / 2) / n=stp u 2147483648 n:=by unfold stp;rw [mul_unit]
theorem xSinS (a:Int) (h0:0≤a) (h1:a≤16200000) (w:World):Calls Tryz.prog 181 #[.int .i64 a] w fun e w'=>e=.returned (.int .i64 (sinS a))∧w=w':=by
 have tb:=tV_bd h0 h1
 have ub:=uV_bd h0 h1
 have hv:=Lib.hid (sinS_ser a)
 have HT:=Lib.hid (show (a * 6746518852+32400000) / 64800000=tV a from rfl)
 have HM:=Lib.hid (xTmul (tV a) (tV a) ⟨by omega,by omega⟩ ⟨by omega,by omega⟩)
 rw [show mul (tV a) (tV a)=uV a from rfl] at HM
 have HS:=Lib.hid (ser_bd (u:=uV a) (ns:=sinN) ub.1 (by omega) sinN_ge)
 have HU:=Lib.hid (fun n=>ser_one (uV a) n)
 generalize uV a=u at *
 generalize tV a=T at *
 have HXM:=Lib.hid (fun y (hy:0≤y∧y≤2147483648)=>xTmul u y ⟨ub.1,by omega⟩ hy)
 have HXT:=Lib.hid (fun y (hy:0≤y∧y≤2147483648)=>xTmul T y ⟨tb.1,by omega⟩ hy)
 obtain ⟨t0,t1⟩:=tb
 obtain ⟨u0,u1⟩:=ub
 have i0:∀ w,(Instr.index 250 (.agg #[.int .i64 110,.int .i64 72,.int .i64 42,.int .i64 20,.int .i64 6]) (.int .i64 0)).run Tryz.prog w=.ok (.int .i64 110) w:=fun _=>by kernel_rfl
 have I0:=Lib.hid i0
 clear i0
 have i1:∀ w,(Instr.index 250 (.agg #[.int .i64 110,.int .i64 72,.int .i64 42,.int .i64 20,.int .i64 6]) (.int .i64 1)).run Tryz.prog w=.ok (.int .i64 72) w:=fun _=>by kernel_rfl
 have I1:=Lib.hid i1
 clear i1
 have i2:∀ w,(Instr.index 250 (.agg #[.int .i64 110,.int .i64 72,.int .i64 42,.int .i64 20,.int .i64 6]) (.int .i64 2)).run Tryz.prog w=.ok (.int .i64 42) w:=fun _=>by kernel_rfl
 have I2:=Lib.hid i2
 clear i2
 have i3:∀ w,(Instr.index 250 (.agg #[.int .i64 110,.int .i64 72,.int .i64 42,.int .i64 20,.int .i64 6]) (.int .i64 3)).run Tryz.prog w=.ok (.int .i64 20) w:=fun _=>by kernel_rfl
 have I3:=Lib.hid i3
 clear i3
 have i4:∀ w,(Instr.index 250 (.agg #[.int .i64 110,.int .i64 72,.int .i64 42,.int .i64 20,.int .i64 6]) (.int .i64 4)).run Tryz.prog w=.ok (.int .i64 6) w:=fun _=>by kernel_rfl
 have I4:=Lib.hid i4
 clear i4
 go_enter Tryz.func181,Tryz.ntmps181
 go_wp2_with fail
 rw [HT.out]
 refine (HM.out _).mono ?_;rintro e w1 ⟨rfl,rfl⟩
 go_wp2_with fail
 go_loop [5,17] (fun r i=>∃ k:Nat,k≤5∧i=.int .i64 k∧r=.int .i64 (ser u sinN k)) (fun _ i=>5 - (intOf i).toNat)
 case atStart=>exact ⟨0,by omega,rfl,rfl⟩
 case round =>
  obtain ⟨k,hk,rfl,rfl⟩:=hrel
  rcases (show k=0∨k=1∨k=2∨k=3∨k=4∨k=5 by omega) with rfl | rfl | rfl | rfl | rfl | rfl
  ·have i0:=I0.out
   go_wp2_with fail
   refine (xTdiv u 110 ⟨u0,by omega⟩ ⟨by decide,by decide⟩ _).mono ?_;rintro e w2 ⟨rfl,rfl⟩
   have hb:=HS.out 1
   have HV:=Lib.hid (show 2147483648 - (u+110 / 2) / 110=ser u sinN 1 from HU.out 110)
   have q:=half_le (m:=u) (n:=110) u0 (by decide)
   obtain ⟨q0,q1⟩:=q
   obtain ⟨V,hV⟩:∃ V,(u+110 / 2) / 110=V:=⟨_,rfl⟩
   rw [hV] at HV q0 q1
   have e1:(u+110 / 2) / 110=V:=hV
   clear hV hb
   rw [show ((u+110 / 2) / 110:Int)=V from e1]
   clear e1
   go_wp2_with fail
   go_round
   case rel=>exact ⟨1,by omega,rfl,by rw [← HV.out]⟩
   case measure=>simp only [intOf];omega
  ·have i1:=I1.out
   have hb:=HS.out 1
   have HV:=Lib.hid (show 2147483648 - (mul u (ser u sinN 1)+72 / 2) / 72=ser u sinN 2 from rfl)
   have HXQ:=Lib.hid (HXM.out (ser u sinN 1) hb)
   have mb:=Tr.mul_bd u0 hb.1 hb.2
   clear hb
   generalize ser u sinN 1=r at *
   generalize mul u r=m at *
   obtain ⟨m0,m1⟩:=mb
   have q:=half_le (m:=m) (n:=72) m0 (by decide)
   obtain ⟨q0,q1⟩:=q
   have HD:=Lib.hid (xTdiv m 72 ⟨m0,by omega⟩ ⟨by decide,by decide⟩)
   generalize (m+72 / 2) / 72=V at *
   go_wp2_with fail
   refine (HXQ.out _).mono ?_;rintro e w2 ⟨rfl,rfl⟩
   go_wp2_with fail
   refine (HD.out _).mono ?_;rintro e w3 ⟨rfl,rfl⟩
   go_wp2_with fail
   go_round
   case rel=>exact ⟨2,by omega,rfl,by rw [← HV.out]⟩
   case measure=>simp only [intOf];omega
  ·have i2:=I2.out
   have hb:=HS.out 2
   have HV:=Lib.hid (show 2147483648 - (mul u (ser u sinN 2)+42 / 2) / 42=ser u sinN 3 from rfl)
   have HXQ:=Lib.hid (HXM.out (ser u sinN 2) hb)
   have mb:=Tr.mul_bd u0 hb.1 hb.2
   clear hb
   generalize ser u sinN 2=r at *
   generalize mul u r=m at *
   obtain ⟨m0,m1⟩:=mb
   have q:=half_le (m:=m) (n:=42) m0 (by decide)
   obtain ⟨q0,q1⟩:=q
   have HD:=Lib.hid (xTdiv m 42 ⟨m0,by omega⟩ ⟨by decide,by decide⟩)
   generalize (m+42 / 2) / 42=V at *
   go_wp2_with fail
   refine (HXQ.out _).mono ?_;rintro e w2 ⟨rfl,rfl⟩
   go_wp2_with fail
   refine (HD.out _).mono ?_;rintro e w3 ⟨rfl,rfl⟩
   go_wp2_with fail
   go_round
   case rel=>exact ⟨3,by omega,rfl,by rw [← HV.out]⟩
   case measure=>simp only [intOf];omega
  ·have i3:=I3.out
   have hb:=HS.out 3
   have HV:=Lib.hid (show 2147483648 - (mul u (ser u sinN 3)+20 / 2) / 20=ser u sinN 4 from rfl)
   have HXQ:=Lib.hid (HXM.out (ser u sinN 3) hb)
   have mb:=Tr.mul_bd u0 hb.1 hb.2
   clear hb
   generalize ser u sinN 3=r at *
   generalize mul u r=m at *
   obtain ⟨m0,m1⟩:=mb
   have q:=half_le (m:=m) (n:=20) m0 (by decide)
   obtain ⟨q0,q1⟩:=q
   have HD:=Lib.hid (xTdiv m 20 ⟨m0,by omega⟩ ⟨by decide,by decide⟩)
   generalize (m+20 / 2) / 20=V at *
   go_wp2_with fail
   refine (HXQ.out _).mono ?_;rintro e w2 ⟨rfl,rfl⟩
   go_wp2_with fail
   refine (HD.out _).mono ?_;rintro e w3 ⟨rfl,rfl⟩
   go_wp2_with fail
   go_round
   case rel=>exact ⟨4,by omega,rfl,by rw [← HV.out]⟩
   case measure=>simp only [intOf];omega
  ·have i4:=I4.out
   have hb:=HS.out 4
   have HV:=Lib.hid (show 2147483648 - (mul u (ser u sinN 4)+6 / 2) / 6=ser u sinN 5 from rfl)
   have HXQ:=Lib.hid (HXM.out (ser u sinN 4) hb)
   have mb:=Tr.mul_bd u0 hb.1 hb.2
   clear hb
   generalize ser u sinN 4=r at *
   generalize mul u r=m at *
   obtain ⟨m0,m1⟩:=mb
   have q:=half_le (m:=m) (n:=6) m0 (by decide)
   obtain ⟨q0,q1⟩:=q
   have HD:=Lib.hid (xTdiv m 6 ⟨m0,by omega⟩ ⟨by decide,by decide⟩)
   generalize (m+6 / 2) / 6=V at *
   go_wp2_with fail
   refine (HXQ.out _).mono ?_;rintro e w2 ⟨rfl,rfl⟩
   go_wp2_with fail
   refine (HD.out _).mono ?_;rintro e w3 ⟨rfl,rfl⟩
   go_wp2_with fail
   go_round
   case rel=>exact ⟨5,by omega,rfl,by rw [← HV.out]⟩
   case measure=>simp only [intOf];omega
  ·have hb:=HS.out 5
   have HXQ:=Lib.hid (HXT.out (ser u sinN 5) hb)
   have mb:=Tr.mul_bd t0 hb.1 hb.2
   obtain ⟨m0,m1⟩:=mb
   clear hb
   generalize ser u sinN 5=r at *
   generalize mul T r=m at *
   go_wp2_with fail
   refine (HXQ.out _).mono ?_;rintro e w2 ⟨rfl,rfl⟩
   go_wp2_with fail
   go_ret
   exact ⟨ret_int (by rw [hv.out]),rfl⟩
theorem xCosS (a:Int) (h0:0≤a) (h1:a≤16200000) (w:World):Calls Tryz.prog 182 #[.int .i64 a] w fun e w'=>e=.returned (.int .i64 (cosS a))∧w=w':=by
 have tb:=tV_bd h0 h1
 have ub:=uV_bd h0 h1
 have hv:=Lib.hid (cosS_ser a)
 have HT:=Lib.hid (show (a * 6746518852+32400000) / 64800000=tV a from rfl)
 have HM:=Lib.hid (xTmul (tV a) (tV a) ⟨by omega,by omega⟩ ⟨by omega,by omega⟩)
 rw [show mul (tV a) (tV a)=uV a from rfl] at HM
 have HS:=Lib.hid (ser_bd (u:=uV a) (ns:=cosN) ub.1 (by omega) cosN_ge)
 have HU:=Lib.hid (fun n=>ser_one (uV a) n)
 generalize uV a=u at *
 generalize tV a=T at *
 have HXM:=Lib.hid (fun y (hy:0≤y∧y≤2147483648)=>xTmul u y ⟨ub.1,by omega⟩ hy)
 have HXT:=Lib.hid (fun y (hy:0≤y∧y≤2147483648)=>xTmul T y ⟨tb.1,by omega⟩ hy)
 obtain ⟨t0,t1⟩:=tb
 obtain ⟨u0,u1⟩:=ub
 have i0:∀ w,(Instr.index 250 (.agg #[.int .i64 90,.int .i64 56,.int .i64 30,.int .i64 12,.int .i64 2]) (.int .i64 0)).run Tryz.prog w=.ok (.int .i64 90) w:=fun _=>by kernel_rfl
 have I0:=Lib.hid i0
 clear i0
 have i1:∀ w,(Instr.index 250 (.agg #[.int .i64 90,.int .i64 56,.int .i64 30,.int .i64 12,.int .i64 2]) (.int .i64 1)).run Tryz.prog w=.ok (.int .i64 56) w:=fun _=>by kernel_rfl
 have I1:=Lib.hid i1
 clear i1
 have i2:∀ w,(Instr.index 250 (.agg #[.int .i64 90,.int .i64 56,.int .i64 30,.int .i64 12,.int .i64 2]) (.int .i64 2)).run Tryz.prog w=.ok (.int .i64 30) w:=fun _=>by kernel_rfl
 have I2:=Lib.hid i2
 clear i2
 have i3:∀ w,(Instr.index 250 (.agg #[.int .i64 90,.int .i64 56,.int .i64 30,.int .i64 12,.int .i64 2]) (.int .i64 3)).run Tryz.prog w=.ok (.int .i64 12) w:=fun _=>by kernel_rfl
 have I3:=Lib.hid i3
 clear i3
 have i4:∀ w,(Instr.index 250 (.agg #[.int .i64 90,.int .i64 56,.int .i64 30,.int .i64 12,.int .i64 2]) (.int .i64 4)).run Tryz.prog w=.ok (.int .i64 2) w:=fun _=>by kernel_rfl
 have I4:=Lib.hid i4
 clear i4
 go_enter Tryz.func182,Tryz.ntmps182
 go_wp2_with fail
 rw [HT.out]
 refine (HM.out _).mono ?_;rintro e w1 ⟨rfl,rfl⟩
 go_wp2_with fail
 go_loop [5,17] (fun r i=>∃ k:Nat,k≤5∧i=.int .i64 k∧r=.int .i64 (ser u cosN k)) (fun _ i=>5 - (intOf i).toNat)
 case atStart=>exact ⟨0,by omega,rfl,rfl⟩
 case round =>
  obtain ⟨k,hk,rfl,rfl⟩:=hrel
  rcases (show k=0∨k=1∨k=2∨k=3∨k=4∨k=5 by omega) with rfl | rfl | rfl | rfl | rfl | rfl
  ·have i0:=I0.out
   go_wp2_with fail
   refine (xTdiv u 90 ⟨u0,by omega⟩ ⟨by decide,by decide⟩ _).mono ?_;rintro e w2 ⟨rfl,rfl⟩
   have hb:=HS.out 1
   have HV:=Lib.hid (show 2147483648 - (u+90 / 2) / 90=ser u cosN 1 from HU.out 90)
   have q:=half_le (m:=u) (n:=90) u0 (by decide)
   obtain ⟨q0,q1⟩:=q
   obtain ⟨V,hV⟩:∃ V,(u+90 / 2) / 90=V:=⟨_,rfl⟩
   rw [hV] at HV q0 q1
   have e1:(u+90 / 2) / 90=V:=hV
   clear hV hb
   rw [show ((u+90 / 2) / 90:Int)=V from e1]
   clear e1
   go_wp2_with fail
   go_round
   case rel=>exact ⟨1,by omega,rfl,by rw [← HV.out]⟩
   case measure=>simp only [intOf];omega
  ·have i1:=I1.out
   have hb:=HS.out 1
   have HV:=Lib.hid (show 2147483648 - (mul u (ser u cosN 1)+56 / 2) / 56=ser u cosN 2 from rfl)
   have HXQ:=Lib.hid (HXM.out (ser u cosN 1) hb)
   have mb:=Tr.mul_bd u0 hb.1 hb.2
   clear hb
   generalize ser u cosN 1=r at *
   generalize mul u r=m at *
   obtain ⟨m0,m1⟩:=mb
   have q:=half_le (m:=m) (n:=56) m0 (by decide)
   obtain ⟨q0,q1⟩:=q
   have HD:=Lib.hid (xTdiv m 56 ⟨m0,by omega⟩ ⟨by decide,by decide⟩)
   generalize (m+56 / 2) / 56=V at *
   go_wp2_with fail
   refine (HXQ.out _).mono ?_;rintro e w2 ⟨rfl,rfl⟩
   go_wp2_with fail
   refine (HD.out _).mono ?_;rintro e w3 ⟨rfl,rfl⟩
   go_wp2_with fail
   go_round
   case rel=>exact ⟨2,by omega,rfl,by rw [← HV.out]⟩
   case measure=>simp only [intOf];omega
  ·have i2:=I2.out
   have hb:=HS.out 2
   have HV:=Lib.hid (show 2147483648 - (mul u (ser u cosN 2)+30 / 2) / 30=ser u cosN 3 from rfl)
   have HXQ:=Lib.hid (HXM.out (ser u cosN 2) hb)
   have mb:=Tr.mul_bd u0 hb.1 hb.2
   clear hb
   generalize ser u cosN 2=r at *
   generalize mul u r=m at *
   obtain ⟨m0,m1⟩:=mb
   have q:=half_le (m:=m) (n:=30) m0 (by decide)
   obtain ⟨q0,q1⟩:=q
   have HD:=Lib.hid (xTdiv m 30 ⟨m0,by omega⟩ ⟨by decide,by decide⟩)
   generalize (m+30 / 2) / 30=V at *
   go_wp2_with fail
   refine (HXQ.out _).mono ?_;rintro e w2 ⟨rfl,rfl⟩
   go_wp2_with fail
   refine (HD.out _).mono ?_;rintro e w3 ⟨rfl,rfl⟩
   go_wp2_with fail
   go_round
   case rel=>exact ⟨3,by omega,rfl,by rw [← HV.out]⟩
   case measure=>simp only [intOf];omega
  ·have i3:=I3.out
   have hb:=HS.out 3
   have HV:=Lib.hid (show 2147483648 - (mul u (ser u cosN 3)+12 / 2) / 12=ser u cosN 4 from rfl)
   have HXQ:=Lib.hid (HXM.out (ser u cosN 3) hb)
   have mb:=Tr.mul_bd u0 hb.1 hb.2
   clear hb
   generalize ser u cosN 3=r at *
   generalize mul u r=m at *
   obtain ⟨m0,m1⟩:=mb
   have q:=half_le (m:=m) (n:=12) m0 (by decide)
   obtain ⟨q0,q1⟩:=q
   have HD:=Lib.hid (xTdiv m 12 ⟨m0,by omega⟩ ⟨by decide,by decide⟩)
   generalize (m+12 / 2) / 12=V at *
   go_wp2_with fail
   refine (HXQ.out _).mono ?_;rintro e w2 ⟨rfl,rfl⟩
   go_wp2_with fail
   refine (HD.out _).mono ?_;rintro e w3 ⟨rfl,rfl⟩
   go_wp2_with fail
   go_round
   case rel=>exact ⟨4,by omega,rfl,by rw [← HV.out]⟩
   case measure=>simp only [intOf];omega
  ·have i4:=I4.out
   have hb:=HS.out 4
   have HV:=Lib.hid (show 2147483648 - (mul u (ser u cosN 4)+2 / 2) / 2=ser u cosN 5 from rfl)
   have HXQ:=Lib.hid (HXM.out (ser u cosN 4) hb)
   have mb:=Tr.mul_bd u0 hb.1 hb.2
   clear hb
   generalize ser u cosN 4=r at *
   generalize mul u r=m at *
   obtain ⟨m0,m1⟩:=mb
   have q:=half_le (m:=m) (n:=2) m0 (by decide)
   obtain ⟨q0,q1⟩:=q
   have HD:=Lib.hid (xTdiv m 2 ⟨m0,by omega⟩ ⟨by decide,by decide⟩)
   generalize (m+2 / 2) / 2=V at *
   go_wp2_with fail
   refine (HXQ.out _).mono ?_;rintro e w2 ⟨rfl,rfl⟩
   go_wp2_with fail
   refine (HD.out _).mono ?_;rintro e w3 ⟨rfl,rfl⟩
   go_wp2_with fail
   go_round
   case rel=>exact ⟨5,by omega,rfl,by rw [← HV.out]⟩
   case measure=>simp only [intOf];omega
  ·have hb:=HS.out 5
   obtain ⟨m0,m1⟩:=hb
   generalize ser u cosN 5=r at *
   go_wp2_with fail
   go_ret
   exact ⟨ret_int (by rw [hv.out]),rfl⟩
end Go.Proofs.YtgneijdjlahgbaaGreat

namespace Go.Proofs.YtgneijdjlahgbaaGreat
set_option maxRecDepth 100000
set_option maxHeartbeats 2000000
set_option linter.unusedSimpArgs false
set_option linter.unusedVariables false
open Go.RowKit
open Tr
theorem xQuart (a:Int) (h0:0≤a) (h1:a≤32400000) (w:World):Calls Tryz.prog 167 #[.int .i64 a] w fun e w'=>e=.returned (.int .i64 (quV a))∧w=w':=by
 by_cases h:a≤16200000
 ·have hv:=Lib.hid (show quV a=sinS a from if_pos h)
  have HS:=Lib.hid (xSinS a h0 h)
  go_enter Tryz.func167,Tryz.ntmps167
  go_wp2_with fail
  refine (HS.out _).mono ?_;rintro e w1 ⟨rfl,rfl⟩
  go_wp2_with fail
  go_ret
  exact ⟨ret_int (by rw [hv.out]),rfl⟩
 ·have hv:=Lib.hid (show quV a=cosS (32400000 - a) from if_neg h)
  have HS:=Lib.hid (xCosS (32400000 - a) (by omega) (by omega))
  go_enter Tryz.func167,Tryz.ntmps167
  go_wp2_with fail
  refine (HS.out _).mono ?_;rintro e w1 ⟨rfl,rfl⟩
  go_wp2_with fail
  go_ret
  exact ⟨ret_int (by rw [hv.out]),rfl⟩
theorem xSin (a:Int) (ha:I64 a) (w:World):Calls Tryz.prog 142 #[.int .i64 a] w fun e w'=>e=.returned (.int .i64 (sinV a))∧w=w':=by
 have HN:=Lib.hid (xNorm a ha)
 have hb:=nrm_bd a
 have hv:=Lib.hid (show sinV a=sinB (nrm a) from rfl)
 generalize nrm a=b at *
 obtain ⟨b0,b1⟩:=hb
 clear ha
 by_cases h1:b≤32400000
 ·have HV:=Lib.hid (hv.out.trans (if_pos h1))
  have HQ:=Lib.hid (xQuart b b0 h1)
  go_enter Tryz.func142,Tryz.ntmps142
  go_wp2_with fail
  refine (HN.out _).mono ?_;rintro e w1 ⟨rfl,rfl⟩
  go_wp2_with fail
  refine (HQ.out _).mono ?_;rintro e w1 ⟨rfl,rfl⟩
  go_wp2_with fail
  go_ret
  exact ⟨ret_int (by rw [HV.out]),rfl⟩
 by_cases h2:b≤64800000
 ·have HV:=Lib.hid (hv.out.trans ((if_neg h1).trans (if_pos h2)))
  have HQ:=Lib.hid (xQuart (64800000 - b) (by omega) (by omega))
  go_enter Tryz.func142,Tryz.ntmps142
  go_wp2_with fail
  refine (HN.out _).mono ?_;rintro e w1 ⟨rfl,rfl⟩
  go_wp2_with fail
  refine (HQ.out _).mono ?_;rintro e w1 ⟨rfl,rfl⟩
  go_wp2_with fail
  go_ret
  exact ⟨ret_int (by rw [HV.out]),rfl⟩
 by_cases h3:b≤97200000
 ·have HV:=Lib.hid (hv.out.trans ((if_neg h1).trans ((if_neg h2).trans (if_pos h3))))
  have HQ:=Lib.hid (xQuart (b - 64800000) (by omega) (by omega))
  have qb:=quV_bd (a:=b - 64800000) (by omega) (by omega)
  generalize quV (b - 64800000)=V at *
  obtain ⟨q0,q1⟩:=qb
  go_enter Tryz.func142,Tryz.ntmps142
  go_wp2_with fail
  refine (HN.out _).mono ?_;rintro e w1 ⟨rfl,rfl⟩
  go_wp2_with fail
  refine (HQ.out _).mono ?_;rintro e w1 ⟨rfl,rfl⟩
  go_wp2_with fail
  go_ret
  exact ⟨ret_int (by rw [HV.out]),rfl⟩
 ·have HV:=Lib.hid (hv.out.trans ((if_neg h1).trans ((if_neg h2).trans (if_neg h3))))
  have HQ:=Lib.hid (xQuart (129600000 - b) (by omega) (by omega))
  have qb:=quV_bd (a:=129600000 - b) (by omega) (by omega)
  generalize quV (129600000 - b)=V at *
  obtain ⟨q0,q1⟩:=qb
  go_enter Tryz.func142,Tryz.ntmps142
  go_wp2_with fail
  refine (HN.out _).mono ?_;rintro e w1 ⟨rfl,rfl⟩
  go_wp2_with fail
  refine (HQ.out _).mono ?_;rintro e w1 ⟨rfl,rfl⟩
  go_wp2_with fail
  go_ret
  exact ⟨ret_int (by rw [HV.out]),rfl⟩
theorem xCos (a:Int) (ha:I64 a) (w:World):Calls Tryz.prog 143 #[.int .i64 a] w fun e w'=>e=.returned (.int .i64 (cosV a))∧w=w':=by
 have HN:=Lib.hid (xTurn a 32400000 ha ⟨by decide,by decide⟩)
 have hb:I64 (turnV a 32400000):=nrm_I64 _
 have HS:=Lib.hid (xSin (turnV a 32400000) hb)
 have hv:=Lib.hid (show cosV a=sinV (turnV a 32400000) by unfold cosV turnV nrm;rfl)
 generalize turnV a 32400000=b at *
 obtain ⟨b0,b1⟩:=hb
 clear ha
 go_enter Tryz.func143,Tryz.ntmps143
 go_wp2_with fail
 refine (HN.out _).mono ?_;rintro e w1 ⟨rfl,rfl⟩
 go_wp2_with fail
 refine (HS.out _).mono ?_;rintro e w1 ⟨rfl,rfl⟩
 go_wp2_with fail
 go_ret
 exact ⟨ret_int (by rw [hv.out]),rfl⟩
end Go.Proofs.YtgneijdjlahgbaaGreat

