
/- The statement PredictFaster: for every input the law returns true, and every argument reads afterwards as before. No condition. -/
import Derived.Test.YtgneijdjlahgbaaGreatRows
import Derived.Test.YtgneijdjlahgbaaGreatFtW
import Derived.SizedLaws
import Derived.WalkKit
import Derived.ProofKit
import Derived.OpenShut
import Derived.ShutString
import Derived.ChangeOld
import Derived.Below
set_option maxRecDepth 100000
namespace Go.Proofs.YtgneijdjlahgbaaGreat
set_option linter.unusedSimpArgs false
set_option linter.unusedVariables false
open Go.RowKit
theorem open_spd {H:Type} {enc:TypeId × Value→H} {w:World} {base:Nat} {spare:Nat→Bool} {held:Bool} {r:Reach} {b0:Nat} {v:Value} {d:DataW H} {p:List MemPlace}
  (hv:Value.okWide Tryz.prog w r b0 65 v) (h:DataW.Trod enc Tryz.prog w base spare held 65 v d p) (hw:∀ q ∈ d.weights Tryz.prog 65,q≤reachBytes) :
  ∃ (A:Option Addr) (n c:Nat) (xs:List Int) (B:Option Addr) (m k:Nat) (ys:List Int),v=.agg #[.slice A n c,.slice B m k]∧Ints w A n xs∧Ints w B m ys∧n≤maxLen∧m≤maxLen∧n * 8≤reachBytes∧m * 8≤reachBytes:=by
 obtain ⟨cs,fu,rfl,h2⟩:=open_agg_list Tryz.underlying65 hv h
 obtain ⟨xs,n',_,hxx,hl,hx,hf⟩:=DataW.trod_struct Tryz.underlying65 h2
 rw [show Tryz.prog.cellsOf 65 = 2 by kernel_rfl] at hl
 match cs,hl with
 | [c0,c1],_ =>
  have e0:DataW.trod enc Tryz.prog w base spare held n' 23 (([c0,c1].drop 0).take (Tryz.prog.cellsOf 23))=xs[0]?:=hf 0 _ rfl
  have e1:DataW.trod enc Tryz.prog w base spare held n' 23 (([c0,c1].drop 1).take (Tryz.prog.cellsOf 23))=xs[1]?:=hf 1 _ rfl
  rw [show Tryz.prog.cellsOf 23 = 1 by kernel_rfl] at e0 e1
  have hi:0<xs.length:=by rw [hx];decide
  have hj:1<xs.length:=by rw [hx];decide
  rw [List.getElem?_eq_getElem hi] at e0
  rw [List.getElem?_eq_getElem hj] at e1
  obtain ⟨A,n,c,l,rfl,a2,_,a4,_,a6⟩:=open_ints_arg Tryz.underlying23 Tryz.underlying2 (by kernel_rfl) e0
  obtain ⟨B,m,k,l',rfl,b2,_,b4,_,b6⟩:=open_ints_arg Tryz.underlying23 Tryz.underlying2 (by kernel_rfl) e1
  have hd:d=.agg (xs.map (·.1)):=by injection hxx
  rw [hd] at hw
  have s0:=a6 (weights_part (j:=0) Tryz.underlying65 hw rfl (by rw [List.getElem?_map,List.getElem?_eq_getElem hi];rfl))
  have s1:=b6 (weights_part (j:=1) Tryz.underlying65 hw rfl (by rw [List.getElem?_map,List.getElem?_eq_getElem hj];rfl))
  rw [show Tryz.prog.bytesOf 2 = 8 by kernel_rfl] at s0 s1
  exact ⟨A,n,c,l,B,m,k,l',rfl,a4,b4,a2,b2,s0,s1⟩
end Go.Proofs.YtgneijdjlahgbaaGreat
namespace Go.Proofs.YtgneijdjlahgbaaGreat.predictFaster
open Go.ChangeShapes Go.WideShapes Go.ChangeAt Go.RowKit
open Go.ChangeMaps (open_string shut_string)
set_option linter.unusedVariables false
set_option linter.unusedSimpArgs false

theorem own:ownKnob Tryz.prog.godebug=none:=by kernel_rfl
theorem laidOut:laidOutB Tryz.prog=true:=by kernel_rfl

theorem lifted (os:Os) (started:os.Started) (H:Type) (enc:TypeId × Value→H) :
  ReturnsInHanded {} Tryz.checked os 6 .any (Rows.predictFasterSpec.pre6 enc Tryz.prog Tryz.f6 Rows.predictFasterRow.domain false) (Rows.predictFasterSpec.post enc Tryz.prog Tryz.f6 false true false false):=by
 refine returnsInHanded_of_change_sized (C:=Tryz.checked) own started (by kernel_rfl) Tryz.func6
  (ChangeSpec.witness6 (enc:=enc) (C:=Tryz.checked) false ⟨#[],#[.agg #[.slice none 0 0,.string ⟨#[]⟩,.int .i64 0,.int .i64 0,.slice none 0 0,.slice none 0 0,.slice none 0 0,.slice none 0 0,.slice none 0 0,.slice none 0 0,.slice none 0 0,.slice none 0 0,.slice none 0 0,.int .i64 0,.int .i64 0,.int .i64 0,.int .i64 0,.int .i64 0,.int .i64 0,.int .i64 0,.int .i64 0,.slice none 0 0,.slice none 0 0,.slice none 0 0,.int .i64 0,.int .i64 0,.int .i64 0,.int .i64 0,.int .i64 0,.int .i64 0,.int .i64 0,.int .i64 0,.int .i64 0,.int .i64 0,.int .i64 0,.int .i64 0],.slice none 0 0,.agg #[.slice none 0 0,.slice none 0 0]],[]⟩ 8 (by kernel_rfl) (by kernel_rfl) (by kernel_rfl) (by kernel_rfl)) ?_
 intro W base args ds gs before hval0 hW hcnd hsz0 _
 have hval:∀ (j:Nat) t v,Tryz.f6.params[j]? = some t→args[j]? = some v→Value.okWide Tryz.prog W .any base t v:=hval0
 have hW':=hW
 obtain ⟨p,q,hA0,hV,rfl,hfz,hnd⟩:=hW
 have hA:DataW.TrodAll enc Tryz.prog W 0 (fun _=>true) true Tryz.f6.params.toList args.toList ds p:=hA0
 have hsz:(DataW.weightsEach Tryz.prog (Tryz.f6.params.toList ++ Rows.predictFasterSpec.plain.varTypes Tryz.prog) (ds ++ gs)).all (·≤reachBytes)=true:=hsz0
 rw [Tryz.params6] at hA hval hsz
 obtain ⟨v0,vs0,d0,ds0,p0,q0,hargs,rfl,rfl,h0,r0⟩:=trodAll_cons hA
 obtain ⟨v1,vs1,d1,ds1,p1,q1,rfl,rfl,rfl,h1,r1⟩:=trodAll_cons r0
 obtain ⟨v2,vs2,d2,ds2,p2,q2,rfl,rfl,rfl,h2,r2⟩:=trodAll_cons r1
 obtain ⟨rfl,rfl,rfl⟩:=trodAll_nil r2
 obtain rfl:args=#[v0,v1,v2]:=by cases args;simp_all
 obtain ⟨rfl,rfl⟩:=trodVars_none hV
 have k0:=h0
 have lt0:∀ x ∈ p0,x.block<W.heap.size:=by obtain ⟨m,hm⟩:=k0;exact DataW.trod_lt m _ _ _ hm
 have k1:=h1
 have lt1:∀ x ∈ p1,x.block<W.heap.size:=by obtain ⟨m,hm⟩:=k1;exact DataW.trod_lt m _ _ _ hm
 have k2:=h2
 have lt2:∀ x ∈ p2,x.block<W.heap.size:=by obtain ⟨m,hm⟩:=k2;exact DataW.trod_lt m _ _ _ hm
 obtain ⟨s0,rfl,sl0,so0,sw0⟩:=open_su (hval 0 35 v0 rfl rfl) h0
 obtain ⟨A1,n1,c1,z1,rfl,m1,qc1,w1,u1,o1⟩:=open_ints_Trod Tryz.underlying23 Tryz.underlying2 (by kernel_rfl) (hval 1 23 v1 rfl rfl) h1
 have o1':=o1 (weights_arg hsz (j:=1) rfl rfl)
 rw [show Tryz.prog.bytesOf 2 = 8 by kernel_rfl] at o1'
 obtain ⟨A2,n2,c2,z2,B2,j2,k2',y2,rfl,w2,u2,m2,x2,e2,f2⟩:=open_spd (hval 2 65 v2 rfl rfl) h2 (weights_arg hsz (j:=2) rfl rfl)
 clear hA0 hval0
 refine (YtgneijdjlahgbaaGreat.walk_PredictFaster s0 A1 n1 c1 z1 A2 n2 c2 z2 B2 j2 k2' y2 W sl0 so0 sw0 w1 u1 m1 o1' w2 u2 m2 x2 e2 f2).mono fun e W' ⟨he,bel⟩=>?_
 subst he
 exact ⟨_,rfl,_,_,_,[],_,[],hW',trodAll_mk1 (shut_bool Tryz.underlying4 _),(trodAll_cons_mk (Below.trod laidOut (by kernel_rfl) (of_decide_eq_true (by kernel_rfl)) k0 bel lt0) (trodAll_cons_mk (Below.trod laidOut (by kernel_rfl) (of_decide_eq_true (by kernel_rfl)) k1 bel lt1) (trodAll_cons_mk (Below.trod laidOut (by kernel_rfl) (of_decide_eq_true (by kernel_rfl)) k2 bel lt2) trodAll_mk0))),rfl,bel.frame _,fun h=>by cases h⟩

theorem j0:(Rows.predictFasterRow.inPlace == Tryz.pinned.checked.prog.inPlace 6)=true:=by kernel_rfl
theorem j1:(Rows.predictFasterRow.unfollowed == Tryz.pinned.checked.prog.unfollowed 6)=true:=by kernel_rfl
theorem j2:(Rows.predictFasterRow.recurses == Tryz.pinned.checked.prog.recurses 6)=true:=by kernel_rfl
theorem j3:(Rows.predictFasterRow.named == Tryz.pinned.checked.prog.varsNamed 6)=true:=by kernel_rfl
theorem closed:joinedFacts Tryz.pinned.checked.prog 6 Tryz.f6 Rows.predictFasterSpec Rows.predictFasterRow=true:=by
 unfold joinedFacts
 rw [j0,j1,j2,j3]
 kernel_rfl
theorem over:Rows.predictFasterRow.holds Tryz.pinned (OpenSpec.ofChange Rows.predictFasterSpec) :=
 OpenClaim.holds_of_wide 6 Tryz.f6 rfl rfl rfl rfl rfl rfl rfl ⟨rfl,rfl,rfl,rfl,rfl⟩ rfl rfl rfl rfl rfl (by kernel_rfl) Tryz.func6 closed
  (of_decide_eq_true (by kernel_rfl)) (by unfold Func.isWrapper;first | (rw [if_pos (by decide +kernel)];kernel_rfl) | (rw [if_neg (by decide +kernel)];exact ⟨rfl,rfl⟩))
  (fun os started H enc _=>lifted os started H enc)

theorem proved:Rows.PredictFasterSaid:=over
end Go.Proofs.YtgneijdjlahgbaaGreat.predictFaster
