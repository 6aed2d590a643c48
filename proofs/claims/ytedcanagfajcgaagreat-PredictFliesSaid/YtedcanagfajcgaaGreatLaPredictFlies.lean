
/- The statement PredictFlies: for every input the law returns true, and every argument reads afterwards as before. No condition. -/
import Derived.Test.YtedcanagfajcgaaGreatRows
import Derived.Test.YtedcanagfajcgaaGreatM51
import Derived.ShutString
set_option linter.unusedSimpArgs false
set_option linter.unusedVariables false
set_option maxRecDepth 100000
namespace Go.Proofs.YtedcanagfajcgaaGreat.predictFlies
open Go.ChangeShapes Go.WideShapes Go.ChangeAt Go.RowKit
open Go.ChangeMaps (open_string shut_string)
theorem own:ownKnob Tryz.prog.godebug=none:=by kernel_rfl
theorem laidOut:laidOutB Tryz.prog=true:=by kernel_rfl
theorem lifted (os:Os) (started:os.Started) (H:Type) (enc:TypeId × Value→H) :
  ReturnsInHanded {} Tryz.checked os 4 .any (Rows.predictFliesSpec.pre6 enc Tryz.prog Tryz.f4 Rows.predictFliesRow.domain false) (Rows.predictFliesSpec.post enc Tryz.prog Tryz.f4 false true false false):=by
 refine returnsInHanded_of_change_sized (C:=Tryz.checked) own started (by kernel_rfl) Tryz.func4
  (ChangeSpec.witness6 (enc:=enc) (C:=Tryz.checked) false ⟨#[],#[.agg #[.slice none 0 0,.string ⟨#[]⟩,vI 0,vI 0,.slice none 0 0,.slice none 0 0,.slice none 0 0,.slice none 0 0,.slice none 0 0,.slice none 0 0,.slice none 0 0,.slice none 0 0,.slice none 0 0,vI 0,vI 0,vI 0,vI 0,vI 0,vI 0,vI 0,vI 0,.slice none 0 0,.slice none 0 0,.slice none 0 0,vI 0,vI 0,vI 0,vI 0,vI 0,vI 0,vI 0,vI 0,vI 0,vI 0,vI 0,vI 0],.slice none 0 0,vI 0],[]⟩ 8 (by kernel_rfl) (by kernel_rfl) (by kernel_rfl) (by kernel_rfl)) ?_
 intro W base args ds gs before hval0 hW hcnd hsz0 _
 have hval:∀ (j:Nat) t v,Tryz.f4.params[j]? = some t→args[j]? = some v→Value.okWide Tryz.prog W .any base t v:=hval0;have hW':=hW;obtain ⟨p,q,hA0,hV,rfl,hfz,hnd⟩:=hW;have hA:DataW.TrodAll enc Tryz.prog W 0 (fun _=>true) true Tryz.f4.params.toList args.toList ds p:=hA0
 have hsz:(DataW.weightsEach Tryz.prog (Tryz.f4.params.toList ++ Rows.predictFliesSpec.plain.varTypes Tryz.prog) (ds ++ gs)).all (·<=reachBytes)=true:=hsz0
 rw [Tryz.params4] at hA hval hsz
 obtain ⟨v0,vs0,d0,ds0,p0,q0,hargs,rfl,rfl,h0,r0⟩:=trodAll_cons hA;obtain ⟨v1,vs1,d1,ds1,p1,q1,rfl,rfl,rfl,h1,r1⟩:=trodAll_cons r0;obtain ⟨v2,vs2,d2,ds2,p2,q2,rfl,rfl,rfl,h2,r2⟩:=trodAll_cons r1;obtain ⟨rfl,rfl,rfl⟩:=trodAll_nil r2
 obtain rfl:args=#[v0,v1,v2]:=by cases args;simp_all
 obtain ⟨rfl,rfl⟩:=trodVars_none hV;have k0:=h0
 have lt0:∀ x ∈ p0,x.block<W.heap.size:=by obtain ⟨m,hm⟩:=k0;exact DataW.trod_lt m _ _ _ hm
 have k1:=h1
 have lt1:∀ x ∈ p1,x.block<W.heap.size:=by obtain ⟨m,hm⟩:=k1;exact DataW.trod_lt m _ _ _ hm
 have k2:=h2
 have lt2:∀ x ∈ p2,x.block<W.heap.size:=by obtain ⟨m,hm⟩:=k2;exact DataW.trod_lt m _ _ _ hm
 obtain ⟨s0,rfl,sl0,so0,sw0⟩:=Zd (hval 0 35 v0 rfl rfl) h0;obtain ⟨A1,n1,c1,z1,rfl,m1,qc1,w1,u1,o1⟩:=KY win 2 (by decide) (fun _=>rfl) OA Tryz.underlying29 (by kernel_rfl) VE (hval 1 29 v1 rfl rfl) h1;have o1':=o1 (PX hsz (j:=1) rfl rfl)
 rw [show Tryz.prog.bytesOf 62 = 16 by kernel_rfl] at o1'
 obtain ⟨a2,rfl,rfl,rfl,w2⟩:=open_int Tryz.underlying3 (hval 2 3 v2 rfl rfl) h2;clear hA0 hval0
 refine (YtedcanagfajcgaaGreat.walk_PredictFlies s0 A1 n1 c1 z1 a2 W sl0 so0 sw0 w1 u1 m1 o1' w2).mono fun e W' ⟨he,bel⟩=>?_
 subst he
 exact ⟨_,rfl,_,_,_,[],_,[],hW',trodAll_mk1 (shut_bool Tryz.underlying4 _),(trodAll_cons_mk (Below.trod laidOut (by kernel_rfl) (of_decide_eq_true (by kernel_rfl)) k0 bel lt0) (trodAll_cons_mk (Below.trod laidOut (by kernel_rfl) (of_decide_eq_true (by kernel_rfl)) k1 bel lt1) (trodAll_cons_mk (Below.trod laidOut (by kernel_rfl) (of_decide_eq_true (by kernel_rfl)) k2 bel lt2) trodAll_mk0))),rfl,bel.frame _,fun h=>by cases h⟩
theorem j0:(Rows.predictFliesRow.inPlace == Tryz.pinned.checked.prog.inPlace 4)=true:=by kernel_rfl
theorem j1:(Rows.predictFliesRow.unfollowed == Tryz.pinned.checked.prog.unfollowed 4)=true:=by kernel_rfl
theorem j2:(Rows.predictFliesRow.recurses == Tryz.pinned.checked.prog.recurses 4)=true:=by kernel_rfl
theorem j3:(Rows.predictFliesRow.named == Tryz.pinned.checked.prog.varsNamed 4)=true:=by kernel_rfl
theorem closed:joinedFacts Tryz.pinned.checked.prog 4 Tryz.f4 Rows.predictFliesSpec Rows.predictFliesRow=true:=by
 unfold joinedFacts
 rw [j0,j1,j2,j3]
 kernel_rfl
theorem over:Rows.predictFliesRow.holds Tryz.pinned (OpenSpec.ofChange Rows.predictFliesSpec) :=
 OpenClaim.holds_of_wide 4 Tryz.f4 rfl rfl rfl rfl rfl rfl rfl ⟨rfl,rfl,rfl,rfl,rfl⟩ rfl rfl rfl rfl rfl (by kernel_rfl) Tryz.func4 closed
  (of_decide_eq_true (by kernel_rfl)) (by unfold Func.isWrapper;first | (rw [if_pos (by decide +kernel)];kernel_rfl) | (rw [if_neg (by decide +kernel)];exact ⟨rfl,rfl⟩))
  (fun os started H enc _=>lifted os started H enc)
theorem proved:Rows.PredictFliesSaid:=over
