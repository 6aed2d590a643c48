/- M21: OpenSu, Pr6 in one text. -/
import Derived.Test.YtedcanagfajcgaaGreatM14
import Derived.Test.YtedcanagfajcgaaGreatM28
set_option linter.unusedSimpArgs false
set_option linter.unusedVariables false
set_option maxRecDepth 100000
set_option maxHeartbeats 8000000
namespace Go.Proofs
theorem Cu{G:Prop}(h:G:=by
  first | exact this | (rw [show Tryz.prog.cellsOf 2 = 1 by kernel_rfl] at this;exact this)):G:=h
theorem Yv{G:Prop}(h:G:=by
  have:=hf 0 _ rfl
  first | exact this | (rw [show Tryz.prog.cellsOf 28 = 2 by kernel_rfl] at this;exact this)):G:=h
end Go.Proofs
namespace Go.Proofs.YtedcanagfajcgaaGreat
open Go.RowKit Go.ChangeShapes Go.WideShapes Go.Deep
theorem WM {H:Type} {enc:TypeId × Value→H} {w:World} {base:Nat} {spare:Nat→Bool} {held:Bool} (n:Nat) (cs:List Value) (y:DataW H × List MemPlace) (h:DataW.trod enc Tryz.prog w base spare held n 28 cs=some y) :
  ∃ (px:Int) (py:Int),cs=(lz2 px py)∧(Lit.int .i64 px).wf=true∧(Lit.int .i64 py).wf=true:=by
 obtain ⟨xs,n',_,_,hlen,hx,hf⟩:=DataW.trod_struct Tryz.underlying28 h
 rw [show Tryz.prog.cellsOf 28 = 2 by kernel_rfl] at hlen
 match cs,hlen with
 | [c0,c1],_ =>
  have e0:DataW.trod enc Tryz.prog w base spare held n' 2 [c0]=xs[0]?:=by
   have:=hf 0 _ rfl
   exact Cu
  have i0:0<xs.length:=by first | omega | (rw [hx];decide)
  rw [AQ i0] at e0
  obtain ⟨px,h0,w0⟩:=BF (k:=.i64) Tryz.underlying2 _ _ _ e0
  obtain rfl:c0=vI px:=by injection h0
  have e1:DataW.trod enc Tryz.prog w base spare held n' 2 [c1]=xs[1]?:=by
   have:=hf 1 _ rfl
   exact Cu
  have i1:1<xs.length:=by first | omega | (rw [hx];decide)
  rw [AQ i1] at e1
  obtain ⟨py,h1,w1⟩:=BF (k:=.i64) Tryz.underlying2 _ _ _ e1
  obtain rfl:c1=vI py:=by injection h1
  exact ⟨px,py,rfl,w0,w1⟩
theorem WP {H:Type} {enc:TypeId × Value→H} {w:World} {base:Nat} {spare:Nat→Bool} {held:Bool} (n:Nat) (cs:List Value) (y:DataW H × List MemPlace) (h:DataW.trod enc Tryz.prog w base spare held n 65 cs=some y) :
  ∃ (lo:Int) (hi:Int),cs=(lz2 lo hi)∧(Lit.int .i64 lo).wf=true∧(Lit.int .i64 hi).wf=true:=by
 obtain ⟨xs,n',_,_,hlen,hx,hf⟩:=DataW.trod_struct Tryz.underlying65 h
 rw [show Tryz.prog.cellsOf 65 = 2 by kernel_rfl] at hlen
 match cs,hlen with
 | [c0,c1],_ =>
  have e0:DataW.trod enc Tryz.prog w base spare held n' 2 [c0]=xs[0]?:=by
   have:=hf 0 _ rfl
   exact Cu
  have i0:0<xs.length:=by first | omega | (rw [hx];decide)
  rw [AQ i0] at e0
  obtain ⟨lo,h0,w0⟩:=BF (k:=.i64) Tryz.underlying2 _ _ _ e0
  obtain rfl:c0=vI lo:=by injection h0
  have e1:DataW.trod enc Tryz.prog w base spare held n' 2 [c1]=xs[1]?:=by
   have:=hf 1 _ rfl
   exact Cu
  have i1:1<xs.length:=by first | omega | (rw [hx];decide)
  rw [AQ i1] at e1
  obtain ⟨hi,h1,w1⟩:=BF (k:=.i64) Tryz.underlying2 _ _ _ e1
  obtain rfl:c1=vI hi:=by injection h1
  exact ⟨lo,hi,rfl,w0,w1⟩
theorem Acw {H:Type} {enc:TypeId × Value→H} {w:World} {base:Nat} {spare:Nat→Bool} {held:Bool} (n:Nat) (cs:List Value) (y:DataW H × List MemPlace) (h:DataW.trod enc Tryz.prog w base spare held n 67 cs=some y) :
  ∃ (px:Int) (py:Int) (di:Int) (alo:Int) (ahi:Int) (slo:Int) (shi:Int),cs=(lz7 px py di alo ahi slo shi)∧(Lit.int .i64 px).wf=true∧(Lit.int .i64 py).wf=true∧(Lit.int .i64 di).wf=true∧(Lit.int .i64 alo).wf=true∧(Lit.int .i64 ahi).wf=true∧(Lit.int .i64 slo).wf=true∧(Lit.int .i64 shi).wf=true:=by
 obtain ⟨xs,n',_,_,hlen,hx,hf⟩:=DataW.trod_struct Tryz.underlying67 h
 rw [show Tryz.prog.cellsOf 67 = 7 by kernel_rfl] at hlen
 match cs,hlen with
 | [c0,c1,c2,c3,c4,c5,c6],_ =>
  have e0:DataW.trod enc Tryz.prog w base spare held n' 28 [c0,c1]=xs[0]?:=by
   exact Yv
  have i0:0<xs.length:=by first | omega | (rw [hx];decide)
  rw [AQ i0] at e0
  obtain ⟨px,py,h0,w0_0,w0_1⟩:=WM _ _ _ e0
  obtain ⟨rfl,rfl⟩:c0=vI px∧c1=vI py:=by simpa using h0
  have e1:DataW.trod enc Tryz.prog w base spare held n' 2 [c2]=xs[1]?:=by
   have:=hf 1 _ rfl
   exact Cu
  have i1:1<xs.length:=by first | omega | (rw [hx];decide)
  rw [AQ i1] at e1
  obtain ⟨di,h1,w1⟩:=BF (k:=.i64) Tryz.underlying2 _ _ _ e1
  obtain rfl:c2=vI di:=by injection h1
  have e2:DataW.trod enc Tryz.prog w base spare held n' 65 [c3,c4]=xs[2]?:=by
   have:=hf 2 _ rfl
   first | exact this | (rw [show Tryz.prog.cellsOf 65 = 2 by kernel_rfl] at this;exact this)
  have i2:2<xs.length:=by first | omega | (rw [hx];decide)
  rw [AQ i2] at e2
  obtain ⟨alo,ahi,h2,w2_0,w2_1⟩:=WP _ _ _ e2
  obtain ⟨rfl,rfl⟩:c3=vI alo∧c4=vI ahi:=by simpa using h2
  have e3:DataW.trod enc Tryz.prog w base spare held n' 65 [c5,c6]=xs[3]?:=by
   have:=hf 3 _ rfl
   first | exact this | (rw [show Tryz.prog.cellsOf 65 = 2 by kernel_rfl] at this;exact this)
  have i3:3<xs.length:=by first | omega | (rw [hx];decide)
  rw [AQ i3] at e3
  obtain ⟨slo,shi,h3,w3_0,w3_1⟩:=WP _ _ _ e3
  obtain ⟨rfl,rfl⟩:c5=vI slo∧c6=vI shi:=by simpa using h3
  exact ⟨px,py,di,alo,ahi,slo,shi,rfl,w0_0,w0_1,w1,w2_0,w2_1,w3_0,w3_1⟩
structure Va (n:Nod):Prop where
 px:I64 n.px
 py:I64 n.py
 di:I64 n.di
 a0:I64 n.a0
 a1:I64 n.a1
 s0:I64 n.s0
 s1:I64 n.s1
theorem Ab6 {H:Type} {enc:TypeId × Value→H} {w:World} {base:Nat} {spare:Nat→Bool} {held:Bool} (n:Nat) (cs:List Value) (y:DataW H × List MemPlace) (h:DataW.trod enc Tryz.prog w base spare held n 67 cs=some y):∃ x:Nod,cs=x.cells∧Va x:=by
 obtain ⟨px,py,di,alo,ahi,slo,shi,h1,w1,w2,w3,w4,w5,w6,w7⟩:=Acw n cs y h
 exact ⟨⟨px,py,di,alo,ahi,slo,shi⟩,h1,Az w1,Az w2,Az w3,Az w4,Az w5,Az w6,Az w7⟩
theorem VE {H:Type} {enc:TypeId × Value→H} {w:World} {base:Nat} {spare:Nat→Bool} {held:Bool} (n:Nat) (cs:List Value) (y:DataW H × List MemPlace) (h:DataW.trod enc Tryz.prog w base spare held n 62 cs=some y):∃ x,cs=win x∧OA x:=by
 obtain ⟨a,b,rfl,wa,wb⟩:=Ab7 Tryz.underlying62 Tryz.underlying2 rfl rfl rfl rfl (by kernel_rfl) (by kernel_rfl) h
 exact ⟨(a,b),rfl,Az wa,Az wb⟩
theorem Acu {H:Type} {enc:TypeId × Value→H} {w:World} {base:Nat} {spare:Nat→Bool} {held:Bool} (n:Nat) (cs:List Value) (y:DataW H × List MemPlace) (h:DataW.trod enc Tryz.prog w base spare held n 31 cs=some y) :
  ∃ (cpx:Int) (cpy:Int) (ce:Int) (nx:Int) (ny:Int) (alA:Option Addr) (aln:Nat) (alc:Nat) (alx:List Int) (wiA:Option Addr) (win_:Nat) (wic:Nat) (wix:List (Int × Int)) (deA:Option Addr) (den:Nat) (dec:Nat) (dex:List Int) (er:Int),cs=[vI cpx,vI cpy,vI ce,vI nx,vI ny,.slice alA aln alc,.slice wiA win_ wic,.slice deA den dec,vI er]∧(Lit.int .i64 cpx).wf=true∧(Lit.int .i64 cpy).wf=true∧(Lit.int .i64 ce).wf=true∧(Lit.int .i64 nx).wf=true∧(Lit.int .i64 ny).wf=true∧aln<=maxLen∧BS alA aln alc∧Ints w alA aln alx∧(∀ x ∈ alx,(Lit.int .i64 x).wf=true)∧win_<=maxLen∧BS wiA win_ wic∧Recs win 2 w wiA win_ wix∧(∀ x ∈ wix,OA x)∧den<=maxLen∧BS deA den dec∧Ints w deA den dex∧(∀ x ∈ dex,(Lit.int .i64 x).wf=true)∧(Lit.int .i64 er).wf=true:=by
 obtain ⟨xs,n',_,_,hlen,hx,hf⟩:=DataW.trod_struct Tryz.underlying31 h
 rw [show Tryz.prog.cellsOf 31 = 9 by kernel_rfl] at hlen
 match cs,hlen with
 | [c0,c1,c2,c3,c4,c5,c6,c7,c8],_ =>
  have e0:DataW.trod enc Tryz.prog w base spare held n' 28 [c0,c1]=xs[0]?:=by
   exact Yv
  have i0:0<xs.length:=by first | omega | (rw [hx];decide)
  rw [AQ i0] at e0
  obtain ⟨cpx,cpy,h0,w0_0,w0_1⟩:=WM _ _ _ e0
  obtain ⟨rfl,rfl⟩:c0=vI cpx∧c1=vI cpy:=by simpa using h0
  have e1:DataW.trod enc Tryz.prog w base spare held n' 2 [c2]=xs[1]?:=by
   have:=hf 1 _ rfl
   exact Cu
  have i1:1<xs.length:=by first | omega | (rw [hx];decide)
  rw [AQ i1] at e1
  obtain ⟨ce,h1,w1⟩:=BF (k:=.i64) Tryz.underlying2 _ _ _ e1
  obtain rfl:c2=vI ce:=by injection h1
  have e2:DataW.trod enc Tryz.prog w base spare held n' 3 [c3]=xs[2]?:=by
   have:=hf 2 _ rfl
   first | exact this | (rw [show Tryz.prog.cellsOf 3 = 1 by kernel_rfl] at this;exact this)
  have i2:2<xs.length:=by first | omega | (rw [hx];decide)
  rw [AQ i2] at e2
  obtain ⟨nx,h2,w2⟩:=BF (k:=.i64) Tryz.underlying3 _ _ _ e2
  obtain rfl:c3=vI nx:=by injection h2
  have e3:DataW.trod enc Tryz.prog w base spare held n' 3 [c4]=xs[3]?:=by
   have:=hf 3 _ rfl
   first | exact this | (rw [show Tryz.prog.cellsOf 3 = 1 by kernel_rfl] at this;exact this)
  have i3:3<xs.length:=by first | omega | (rw [hx];decide)
  rw [AQ i3] at e3
  obtain ⟨ny,h3,w3⟩:=BF (k:=.i64) Tryz.underlying3 _ _ _ e3
  obtain rfl:c4=vI ny:=by injection h3
  have e4:DataW.trod enc Tryz.prog w base spare held n' 23 [c5]=xs[4]?:=by
   have:=hf 4 _ rfl
   first | exact this | (rw [show Tryz.prog.cellsOf 23 = 1 by kernel_rfl] at this;exact this)
  have i4:4<xs.length:=by first | omega | (rw [hx];decide)
  rw [AQ i4] at e4
  obtain ⟨alA,aln,alc,alx,rfl,w4a,w4b,w4c,w4d,_⟩:=BD Tryz.underlying23 Tryz.underlying2 (by kernel_rfl) e4
  have e5:DataW.trod enc Tryz.prog w base spare held n' 29 [c6]=xs[5]?:=by
   have:=hf 5 _ rfl
   first | exact this | (rw [show Tryz.prog.cellsOf 29 = 1 by kernel_rfl] at this;exact this)
  have i5:5<xs.length:=by first | omega | (rw [hx];decide)
  rw [AQ i5] at e5
  obtain ⟨wiA,win_,wic,wix,rfl,w5a,w5b,w5c,w5d,_⟩:=DC win 2 (by decide) (fun _=>rfl) OA Tryz.underlying29 (by kernel_rfl) VE e5
  have e6:DataW.trod enc Tryz.prog w base spare held n' 23 [c7]=xs[6]?:=by
   have:=hf 6 _ rfl
   first | exact this | (rw [show Tryz.prog.cellsOf 23 = 1 by kernel_rfl] at this;exact this)
  have i6:6<xs.length:=by first | omega | (rw [hx];decide)
  rw [AQ i6] at e6
  obtain ⟨deA,den,dec,dex,rfl,w6a,w6b,w6c,w6d,_⟩:=BD Tryz.underlying23 Tryz.underlying2 (by kernel_rfl) e6
  have e7:DataW.trod enc Tryz.prog w base spare held n' 2 [c8]=xs[7]?:=by
   have:=hf 7 _ rfl
   exact Cu
  have i7:7<xs.length:=by first | omega | (rw [hx];decide)
  rw [AQ i7] at e7
  obtain ⟨er,h7,w7⟩:=BF (k:=.i64) Tryz.underlying2 _ _ _ e7
  obtain rfl:c8=vI er:=by injection h7
  exact ⟨cpx,cpy,ce,nx,ny,alA,aln,alc,alx,wiA,win_,wic,wix,deA,den,dec,dex,er,rfl,w0_0,w0_1,w1,w2,w3,w4a,w4b,w4c,w4d,w5a,w5b,w5c,w5d,w6a,w6b,w6c,w6d,w7⟩
theorem Acv {H:Type} {enc:TypeId × Value→H} {w:World} {base:Nat} {spare:Nat→Bool} {held:Bool} (n:Nat) (cs:List Value) (y:DataW H × List MemPlace) (h:DataW.trod enc Tryz.prog w base spare held n 31 cs=some y) :
  ∃ g:Grd,cs=g.cells∧g.lies w∧g.ok∧(I64 g.ce∧I64 g.er):=by
 obtain ⟨cpx,cpy,ce,nx,ny,alA,aln,alc,alx,wiA,win_,wic,wix,deA,den,dec,dex,er,h1,f0,f1,f2,f3,f4,f5,f6,f7,f8,f9,f10,f11,f12,f13,f14,f15,f16,f17⟩:=Acu n cs y h
 exact ⟨⟨cpx,cpy,ce,nx,ny,⟨alA,aln,alc⟩,⟨wiA,win_,wic⟩,⟨deA,den,dec⟩,er,alx,wix,dex⟩,h1,⟨f7,f11,f15⟩,⟨Az f0,Az f1,Az f2,Az f3,Az f4,f5,f9,f13⟩,Az f2,Az f17⟩
theorem Acr {H:Type} {enc:TypeId × Value→H} {w:World} {base:Nat} {spare:Nat→Bool} {held:Bool} (n:Nat) (cs:List Value) (y:DataW H × List MemPlace) (h:DataW.trod enc Tryz.prog w base spare held n 33 cs=some y) :
  ∃ (em:Int) (ld:Int) (rs:Int) (bu:Int),cs=(lz4 em ld rs bu)∧(Lit.int .i64 em).wf=true∧(Lit.int .i64 ld).wf=true∧(Lit.int .i64 rs).wf=true∧(Lit.int .i64 bu).wf=true:=by
 obtain ⟨xs,n',_,_,hlen,hx,hf⟩:=DataW.trod_struct Tryz.underlying33 h
 rw [show Tryz.prog.cellsOf 33 = 4 by kernel_rfl] at hlen
 match cs,hlen with
 | [c0,c1,c2,c3],_ =>
  have e0:DataW.trod enc Tryz.prog w base spare held n' 2 [c0]=xs[0]?:=by
   have:=hf 0 _ rfl
   exact Cu
  have i0:0<xs.length:=by first | omega | (rw [hx];decide)
  rw [AQ i0] at e0
  obtain ⟨em,h0,w0⟩:=BF (k:=.i64) Tryz.underlying2 _ _ _ e0
  obtain rfl:c0=vI em:=by injection h0
  have e1:DataW.trod enc Tryz.prog w base spare held n' 2 [c1]=xs[1]?:=by
   have:=hf 1 _ rfl
   exact Cu
  have i1:1<xs.length:=by first | omega | (rw [hx];decide)
  rw [AQ i1] at e1
  obtain ⟨ld,h1,w1⟩:=BF (k:=.i64) Tryz.underlying2 _ _ _ e1
  obtain rfl:c1=vI ld:=by injection h1
  have e2:DataW.trod enc Tryz.prog w base spare held n' 2 [c2]=xs[2]?:=by
   have:=hf 2 _ rfl
   exact Cu
  have i2:2<xs.length:=by first | omega | (rw [hx];decide)
  rw [AQ i2] at e2
  obtain ⟨rs,h2,w2⟩:=BF (k:=.i64) Tryz.underlying2 _ _ _ e2
  obtain rfl:c2=vI rs:=by injection h2
  have e3:DataW.trod enc Tryz.prog w base spare held n' 2 [c3]=xs[3]?:=by
   have:=hf 3 _ rfl
   exact Cu
  have i3:3<xs.length:=by first | omega | (rw [hx];decide)
  rw [AQ i3] at e3
  obtain ⟨bu,h3,w3⟩:=BF (k:=.i64) Tryz.underlying2 _ _ _ e3
  obtain rfl:c3=vI bu:=by injection h3
  exact ⟨em,ld,rs,bu,rfl,w0,w1,w2,w3⟩
theorem Acs {H:Type} {enc:TypeId × Value→H} {w:World} {base:Nat} {spare:Nat→Bool} {held:Bool} (n:Nat) (cs:List Value) (y:DataW H × List MemPlace) (h:DataW.trod enc Tryz.prog w base spare held n 33 cs=some y) :
  ∃ a:Acc,cs=a.cells∧I64 a.em∧I64 a.ld∧I64 a.rs∧I64 a.bu:=by
 obtain ⟨em,ld,rs,bu,h1,w1,w2,w3,w4⟩:=Acr n cs y h
 exact ⟨⟨em,ld,rs,bu⟩,h1,Az w1,Az w2,Az w3,Az w4⟩
structure AbQ (s:Stp):Prop where
 no:∀ x ∈ s.no,Va x
 cap:BS s.sno.A s.sno.n s.sno.c
 ac:I64 s.ac.rs∧I64 s.ac.bu
 er:I64 s.gr.er
 lv:I64 s.lv
 cas:I64 s.cas
 mch:I64 s.mch
 acc:I64 s.acc
 dec:I64 s.dec
 la:I64 s.la
 ls:I64 s.ls
theorem Aee {H:Type} {enc:TypeId × Value→H} {w:World} {base:Nat} {spare:Nat→Bool} {held:Bool} (n:Nat) (cs:List Value) (y:DataW H × List MemPlace) (h:DataW.trod enc Tryz.prog w base spare held n 35 cs=some y) :
  ∃ s:Stp,cs=s.cells∧s.lies w∧s.ok∧AbQ s:=by
 obtain ⟨xs,n',_,_,hlen,hx,hf⟩:=DataW.trod_struct Tryz.underlying35 h
 rw [show Tryz.prog.cellsOf 35 = 36 by kernel_rfl] at hlen
 match cs,hlen with
 | z0_ :: z1_ :: z2_ :: z3_ :: z4_ :: z5_ :: z6_ :: z7_ :: z8_ :: z9_ :: z10_ :: z11_ :: z12_ :: z13_ :: z14_ :: z15_ :: z16_ :: z17_ :: z18_ :: z19_ :: z20_ :: z21_ :: z22_ :: z23_ :: z24_ :: z25_ :: z26_ :: z27_ :: z28_ :: z29_ :: z30_ :: z31_ :: z32_ :: z33_ :: z34_ :: z35_ :: [],_ =>
  have e0:DataW.trod enc Tryz.prog w base spare held n' 22 [z0_]=xs[0]?:=by
   have:=hf 0 _ rfl
   first | exact this | (rw [show Tryz.prog.cellsOf 22 = 1 by kernel_rfl] at this;exact this)
  have i0:0<xs.length:=by first | omega | (rw [hx];decide)
  rw [AQ i0] at e0
  obtain ⟨A,m,c,no,rfl,n1,n2,n3,n4,_⟩:=DC Nod.cells 7 (by decide) (fun _=>rfl) Va Tryz.underlying22 (by kernel_rfl) Ab6 e0
  have e1:DataW.trod enc Tryz.prog w base spare held n' 26 [z1_,z2_,z3_,z4_,z5_,z6_,z7_,z8_,z9_,z10_,z11_,z12_,z13_,z14_,z15_]=xs[1]?:=by
   have:=hf 1 _ rfl
   first | exact this | (rw [show Tryz.prog.cellsOf 26 = 15 by kernel_rfl] at this;exact this)
  have i1:1<xs.length:=by first | omega | (rw [hx];decide)
  rw [AQ i1] at e1
  obtain ⟨pf,q1,q2,q3,q4⟩:=Acx _ _ _ e1
  have e2:DataW.trod enc Tryz.prog w base spare held n' 31 [z16_,z17_,z18_,z19_,z20_,z21_,z22_,z23_,z24_]=xs[2]?:=by
   have:=hf 2 _ rfl
   first | exact this | (rw [show Tryz.prog.cellsOf 31 = 9 by kernel_rfl] at this;exact this)
  have i2:2<xs.length:=by first | omega | (rw [hx];decide)
  rw [AQ i2] at e2
  obtain ⟨gr,r1,r2,r3,r4⟩:=Acv _ _ _ e2
  have e3:DataW.trod enc Tryz.prog w base spare held n' 33 [z25_,z26_,z27_,z28_]=xs[3]?:=by
   have:=hf 3 _ rfl
   first | exact this | (rw [show Tryz.prog.cellsOf 33 = 4 by kernel_rfl] at this;exact this)
  have i3:3<xs.length:=by first | omega | (rw [hx];decide)
  rw [AQ i3] at e3
  obtain ⟨ac,s1,s2,s3,s4,s5⟩:=Acs _ _ _ e3
  have e4:DataW.trod enc Tryz.prog w base spare held n' 2 [z29_]=xs[4]?:=by
   have:=hf 4 _ rfl
   exact Cu
  have i4:4<xs.length:=by first | omega | (rw [hx];decide)
  rw [AQ i4] at e4
  obtain ⟨lv,h0,w0⟩:=BF (k:=.i64) Tryz.underlying2 _ _ _ e4
  obtain rfl:z29_=vI lv:=by injection h0
  have e5:DataW.trod enc Tryz.prog w base spare held n' 2 [z30_]=xs[5]?:=by
   have:=hf 5 _ rfl
   exact Cu
  have i5:5<xs.length:=by first | omega | (rw [hx];decide)
  rw [AQ i5] at e5
  obtain ⟨cas,h1,w1⟩:=BF (k:=.i64) Tryz.underlying2 _ _ _ e5
  obtain rfl:z30_=vI cas:=by injection h1
  have e6:DataW.trod enc Tryz.prog w base spare held n' 2 [z31_]=xs[6]?:=by
   have:=hf 6 _ rfl
   exact Cu
  have i6:6<xs.length:=by first | omega | (rw [hx];decide)
  rw [AQ i6] at e6
  obtain ⟨mch,h2,w2⟩:=BF (k:=.i64) Tryz.underlying2 _ _ _ e6
  obtain rfl:z31_=vI mch:=by injection h2
  have e7:DataW.trod enc Tryz.prog w base spare held n' 2 [z32_]=xs[7]?:=by
   have:=hf 7 _ rfl
   exact Cu
  have i7:7<xs.length:=by first | omega | (rw [hx];decide)
  rw [AQ i7] at e7
  obtain ⟨acc,h3,w3⟩:=BF (k:=.i64) Tryz.underlying2 _ _ _ e7
  obtain rfl:z32_=vI acc:=by injection h3
  have e8:DataW.trod enc Tryz.prog w base spare held n' 2 [z33_]=xs[8]?:=by
   have:=hf 8 _ rfl
   exact Cu
  have i8:8<xs.length:=by first | omega | (rw [hx];decide)
  rw [AQ i8] at e8
  obtain ⟨dec,h4,w4⟩:=BF (k:=.i64) Tryz.underlying2 _ _ _ e8
  obtain rfl:z33_=vI dec:=by injection h4
  have e9:DataW.trod enc Tryz.prog w base spare held n' 2 [z34_]=xs[9]?:=by
   have:=hf 9 _ rfl
   exact Cu
  have i9:9<xs.length:=by first | omega | (rw [hx];decide)
  rw [AQ i9] at e9
  obtain ⟨la,h5,w5⟩:=BF (k:=.i64) Tryz.underlying2 _ _ _ e9
  obtain rfl:z34_=vI la:=by injection h5
  have e10:DataW.trod enc Tryz.prog w base spare held n' 2 [z35_]=xs[10]?:=by
   have:=hf 10 _ rfl
   exact Cu
  have i10:10<xs.length:=by first | omega | (rw [hx];decide)
  rw [AQ i10] at e10
  obtain ⟨ls,h6,w6⟩:=BF (k:=.i64) Tryz.underlying2 _ _ _ e10
  obtain rfl:z35_=vI ls:=by injection h6
  refine ⟨⟨⟨A,m,c⟩,no,pf,gr,ac,lv,cas,mch,acc,dec,la,ls⟩,?_,⟨n3,q2,r2⟩,⟨n1,q3,r3,s3,s2⟩,⟨n4,n2,⟨s4,s5⟩,r4.2,Az w0,Az w1,Az w2,Az w3,Az w4,Az w5,Az w6⟩⟩
  show _=_ :: (pf.cells ++ (gr.cells ++ (ac.cells ++ _)))
  rw [← q1,← r1,← s1]
  rfl
theorem Zd {H:Type} {enc:TypeId × Value→H} {w:World} {base:Nat} {spare:Nat→Bool} {held:Bool} {r:Reach} {b0:Nat} {v:Value} {d:DataW H} {p:List MemPlace}
  (hv:Value.okWide Tryz.prog w r b0 35 v) (h:DataW.Trod enc Tryz.prog w base spare held 35 v d p):∃ s:Stp,v=.agg s.cells.toArray∧s.lies w∧s.ok∧AbQ s:=by
 obtain ⟨cs,n,rfl,hh⟩:=LK Tryz.underlying35 hv h;obtain ⟨s,rfl,h1,h2,h3⟩:=Aee _ _ _ hh
 exact ⟨s,rfl,h1,h2,h3⟩
open Go.RowKit
open Go.Lib (hid)
def Ul (s:Stp) (w:World) (e:Ending) (w':World):Prop:=∃ A c,e=.returned (.tuple #[.slice A (okN (Dr s) s.no.length) c,.agg #[vI (Jl s).1,vI (Jl s).2],vI (Dr s)])∧Ints w' A (okN (Dr s) s.no.length) (okL (Dr s) (C8 s))∧Below w.heap.size w w'
theorem OE {s:Stp} {w w':World} {x y E:Int} (hE:Dr s=E) (h0:E≠0) (hx:Jl s=(x,y)) (hb:Below w.heap.size w w'):Ul s w (.returned (.tuple #[.slice none 0 0,.agg #[vI x,vI y],vI E])) w':=by
 unfold Ul
 rw [hE,hx]
 unfold okN okL
 rw [if_neg h0,if_neg h0]
 exact ⟨none,0,rfl,Ints.nil w',hb⟩
def AbK (s:Stp) (w w1:World) (g n:Nat) (t:Value) (wr:World):Prop:=∃ k:Nat,k<=n∧t=vI (k:Int)∧BoxS w 2 [s.cells,(lz2 0 0)] wr∧RowF w1 g n (Cs.lowF (awL s) (List.replicate n s.lv) k) wr
theorem RowF.below {w0 w w':World} {g n:Nat} {F:Nat→Int × Int} (h:RowF w0 g n F w) (hb:Below w.heap.size w w'):RowF w0 g n F w' :=
 ⟨fun j hj=>(hb.cell (p:=⟨g,j * 2,none⟩) h.lt).trans (h.lo j hj),fun j hj=>(hb.cell (p:=⟨g,j * 2+1,none⟩) h.lt).trans (h.hi j hj),fun o=>(hb.frozen (p:=⟨g,o,none⟩) h.lt).trans (h.fr o),Nat.lt_of_lt_of_le h.lt hb.size,h.ge,Ae h.bel hb⟩
theorem EM {W:World} {a p:Addr} {v u:Value} (hv:W.cell? a=some v) (h:W.cell? p=some u):(W.setCell a v).cell? p=some u:=by
 by_cases e:a=p
 ·subst e;rw [World.cell?_setCell_same _ _ _ hv];rw [hv] at h;exact h
 ·rw [World.cell?_setCell_other _ a p v e];exact h
theorem Ints.same {W:World} {A:Option Addr} {n:Nat} {l:List Int} {a:Addr} {v:Value} (h:Ints W A n l) (hv:W.cell? a=some v):Ints (W.setCell a v) A n l :=
 ⟨h.len,fun hn=>by
  obtain ⟨b,off,h1,h2,h3⟩:=h.cells hn
  exact ⟨b,off,h1,by simpa [World.setCell] using h2,fun k x hk=>EM hv (h3 k x hk)⟩⟩
theorem YG {s:Stp} (h:suE s=0):Dr s=crE (awL s) (Cy s) s.lv:=by unfold Dr;rw [if_neg (by rw [h];decide)]
theorem RQ {s:Stp} (h:suE s=0):Jl s=if crE (awL s) (Cy s) s.lv=0 then (0,0) else hdC (Cs.confL (awC s) (Cy s)):=by unfold Jl;rw [if_neg (by rw [h];decide)]
theorem IX {α:Type} (l:List α):okL 0 l=l:=if_pos rfl
theorem Gf (n:Nat):okN 0 n=n:=if_pos rfl
theorem P6 (s:Stp) (w:World) (hl:s.lies w) (hok:s.ok):Calls Tryz.prog 46 #[.agg s.cells.toArray] w (Ul s w):=by
 have HS:=hid (Dt w s.cells.toArray #[vI 0,vI 0] 35 44);have HC:=hid (fun W (h:BoxS w 2 [s.cells,(lz2 0 0)] W)=>Z9 s W (hl.below h.B) hok);have HCF:=hid (fun W (h:BoxS w 2 [s.cells,(lz2 0 0)] W)=>show (W.cell? ⟨w.heap.size+1,0,none⟩=some (vI 0)∧W.cell? ⟨w.heap.size+1,1,none⟩=some (vI 0))∧∀ o,W.frozen? ⟨w.heap.size+1,o,none⟩=false from ⟨⟨h.at 1 _ rfl 0 _ rfl,h.at 1 _ rfl 1 _ rfl⟩,h.fr 1 _ rfl⟩)
 by_cases hE:suE s=0
 rotate_left
 ·have HE:=hid (show Dr s=suE s from if_pos hE)
  have HX:=hid (show Jl s=(0,0) from if_pos hE);have e1:=Aw hE;have e2:=AL e1;have H0:=hid hE;have hR:∀ {α:Type} (l:List α),okL (suE s) l=[]:=fun l=>if_neg hE;have hN:∀ n,okN (suE s) n=0:=fun n=>if_neg hE
  unfold FY at HC
  simp only [hN,hR] at HC
  generalize suE s=E at *;clear hl hok hE hN hR
  go_enter Tryz.func46,Tryz.ntmps46
  go_wp2_with (refine AC (.tmp 1) rfl rfl rfl (HS.out.has 0 _ rfl) ?_)
  refine (HC.out _ HS.out).mono ?_;rintro e' w1 ⟨A',c',rfl,_,_,hB⟩
  replace HS:=hid (HS.out.below hB);obtain ⟨⟨z0,z1⟩,zf⟩:=HCF.out _ HS.out;clear hB
  go_wp2_with fail
  exact bodyPost_ret (v:=.tuple #[.slice none 0 0,.agg #[vI 0,vI 0],vI E]) (by simp [results,Tryz.results46,go_sem,z0,z1]) rfl (OE HE.out H0.out HX.out ((HS.out.B.setCell (p:=⟨w.heap.size+1,0,none⟩) (by show w.heap.size<=w.heap.size+1;omega) _).setCell (p:=⟨w.heap.size+1,1,none⟩) (by show w.heap.size<=w.heap.size+1;omega) _))
 have G:=Cm hE;have N:=StN.of hl;have hn2:=Cq G N;have HAE:=hid (YG hE);have HAC:=hid (RQ hE);have HLV:=hid (fun W (h:BoxS w 2 [s.cells,(lz2 0 0)] W)=>show W.cell? ⟨w.heap.size,29,none⟩=some (vI s.lv) from FP (h.has 0 _ rfl));have HW:=hid (fun W (h:BoxS w 2 [s.cells,(lz2 0 0)] W)=>U0 s W (hl.below h.B) hok G);have HGN:=hid (And.intro G N)
 rw [hE] at HC
 unfold FY at HC
 simp only [IX,Gf] at HC
 clear hl hok hE G N
 go_enter Tryz.func46,Tryz.ntmps46
 go_wp2_with (refine AC (.tmp 1) rfl rfl rfl (HS.out.has 0 _ rfl) ?_)
 refine (HC.out _ HS.out).mono ?_;rintro e' w1 ⟨A1,c1,rfl,hP1,hcap1,hB⟩
 replace HS:=hid (HS.out.below hB);have HP1:=hid hP1;have HC1:=hid hcap1;have HSZ:=hid HS.out.sz;clear hB hP1 hcap1
 go_wp2_with (refine AC (.tmp 1) rfl rfl rfl (HS.out.has 0 _ rfl) ?_)
 refine (HW.out _ HS.out).mono ?_;rintro e' w2 ⟨g,cap,rfl,hown,hnc,hcm,hB⟩
 replace HS:=hid (HS.out.below hB);have HP2:=hid (HP1.out.below hB);have HR:=hid (RowF.of_own (w0:=w1) (Cf s) hown hB)
 have hmx:s.no.length<=maxLen:=by unfold maxLen;omega
 have hgw:w.heap.size+2<=g:=Nat.le_trans HSZ.out (hown.lt g rfl).1;have k29:=HLV.out _ HS.out
 have HPR:=hid (show Pairs w2 (some ⟨g,0,none⟩) s.no.length (awL s) from by
  have h:=HR.out.pairs
  rwa [show (List.range s.no.length).map (fun j=>(awL s).getD j (0,0))=awL s from by
   refine List.ext_getElem? fun k=>?_
   rw [List.getElem?_map]
   by_cases hk:k<s.no.length
   ·rw [List.getElem?_range hk,J4 hk]
    show some ((awL s).getD k (0,0))=_
    rw [Dp,J4 hk];rfl
   ·rw [List.getElem?_eq_none (by simpa using hk),List.getElem?_eq_none (by rw [Cf];omega)];rfl] at h)
 have HCR:=hid (ZZ (some ⟨g,0,none⟩) A1 s.no.length cap (s.no.length - 1) c1 (awL s) (Cy s) s.lv w2 HPR.out HP2.out (by omega) (by omega) HC1.out.le HC1.out.mx (fun h=>by cases h));clear hown hnc hB
 go_wp2_with fail
 rcases Ab3 HGN.out.1 HGN.out.2 with ⟨hz,hcl⟩ | ⟨hz,hcl⟩
 ·have HE0:=hid (HAE.out.trans hz)
  have HCC:=hid (HAC.out.trans (if_pos hz))
  refine (HCR.out).mono ?_;rintro e' w3 ⟨h1,_,hB⟩
  obtain ⟨A2,c2,rfl,hI⟩:=h1 hz;replace HS:=hid (HS.out.below hB);have HI:=hid hI;clear hB h1 hI hz hcl k29 HAE HAC HCR;obtain ⟨⟨z0,z1⟩,zf⟩:=HCF.out _ HS.out
  go_wp2_with fail
  exact bodyPost_ret (v:=.tuple #[.slice A2 s.no.length c2,.agg #[vI 0,vI 0],vI 0]) (by simp [results,Tryz.results46,go_sem,z0,z1]) rfl (by
   unfold Ul
   rw [HE0.out,HCC.out,Gf,IX]
   exact ⟨A2,c2,rfl,(HI.out.same z0).same (EM z0 z1),(HS.out.B.setCell (p:=⟨w.heap.size+1,0,none⟩) (by show w.heap.size<=w.heap.size+1;omega) _).setCell (p:=⟨w.heap.size+1,1,none⟩) (by show w.heap.size<=w.heap.size+1;omega) _⟩)
 ·have HE1:=hid (HAE.out.trans hz)
  have HCC:=hid (HAC.out.trans (if_neg (by rw [hz];decide)))
  refine (HCR.out).mono ?_;rintro e' w3 ⟨_,h2,hB⟩
  have h2':=h2 (by rw [hz];decide)
  rw [hz] at h2'
  subst h2';replace HS:=hid (HS.out.below hB);replace HR:=hid (HR.out.below hB);have HCL:=hid hcl;clear hB h2 hz hcl k29 HAE HAC HCR HPR HP2 hmx;have HNN:=hid hn2;generalize hN:s.no.length=n at *;have HNL:=hid hN;clear hN
  go_wp2_with fail
  go_loopw [42] (fun t wr=>AbK s w w1 g n t wr) (fun t _=>n - (intOf t).toNat)
  case atStart=>exact ⟨0,by omega,rfl,HS.out,HR.out.congr fun j hj=>Cs.lowF_zero j⟩
  case round =>
   obtain ⟨k,hk,rfl,hs,hR⟩:=hrel;replace HS:=hid hs;replace HR:=hid hR;clear hs hR
   by_cases hlt:k<n
   ·have e1:=HR.out.hi k hlt
    rw [Cs.lowF_cells] at e1
    replace e1:wr.cell? ⟨g,k * 2+1,none⟩=some (vI (Cs.hi (awL s) k)):=e1;have E1:=hid e1;have FR:=hid (HR.out.fr);have hstep:=hid (O9 (ws:=awL s) (wish:=List.replicate n s.lv) (k:=k) (x:=s.lv) (by rw [List.getElem?_replicate,if_pos hlt]))
    have i1:(0:Int)<=(k:Int):=by omega
    have i2:(k:Int)<(n:Int):=by omega
    have hlt64:k<64:=by omega
    have HLT:=hid hlt;have HGW:=hid hgw;generalize Cs.hi (awL s) k=HH at *;clear e1 hlt hk hgw
    go_wp2_with fail
    have e1:wr.drew.cell? ⟨g,k * 2+1,none⟩=some (vI HH):=E1.out;have fr:wr.drew.frozen? ⟨g,k * 2+1,none⟩=false:=FR.out _;replace HR:=hid (HR.out.drew)
    refine Ir (S:=fun W=>BoxS w 2 [s.cells,(lz2 0 0)] W∧W.cell? ⟨w.heap.size,29,none⟩=some (vI s.lv)) 13 #[false,false,false,false,false,false,false,false,false,false,false,false,false] rfl rfl (by kernel_rfl) (⟨HS.out.drew,HLV.out _ HS.out.drew⟩) (fun hHeld=>?_)
    generalize wr.drew=w8 at *
    iterate 6 (refine hF (L:=_) (v:=?_) rfl rfl ?_ ?_;rotate_left;(intro W hW;go_simp;try with_reducible rfl);try simp only [Act.put,pa,pb,pc,Rn])
    refine hL 7 52 (v:=?_) rfl rfl ?_ ?_
    rotate_left
    ·intro W hW
     go_simp;try with_reducible rfl
    (try simp only [Act.put,pa,pb,pc])
    refine hL 8 53 (v:=?_) rfl rfl ?_ ?_
    rotate_left
    ·intro W hW
     have kk:=hW.2;go_simp;try with_reducible rfl
    (try simp only [Act.put,pa,pb,pc])
    refine wpAnyH_ready (rs:=[6]) (by kernel_rfl) (by simp) ?_
    refine AllReadyH.cons (o:=_) rfl (fun K hK=>?_) AllReadyH.nil
    go_simp
    refine hK.out _ _ hHeld (fun _=>?_)
    clear hK K
    (try simp only [Act.put,pa,pb,pc])
    iterate 3 (refine hF (L:=_) (v:=?_) rfl rfl ?_ ?_;rotate_left;(intro W hW;go_simp;try with_reducible rfl);try simp only [Act.put,pa,pb,pc,Rn])
    refine wpAnyH_ready (rs:=[12]) (by kernel_rfl) (by simp) ?_
    refine AllReadyH.cons (o:=_) rfl (fun K hK=>?_) AllReadyH.nil
    go_simp
    have hNew:=And.intro (hHeld.1.set g (k * 2+1) HGW.out (vI (min HH s.lv))) (HLV.out _ (hHeld.1.set g (k * 2+1) HGW.out (vI (min HH s.lv))))
    refine hK.out _ _ hNew (fun hHeld2=>?_)
    clear hK K hNew hHeld;have hHeld:=hHeld2;clear hHeld2
    (try simp only [Act.put,pa,pb,pc])
    refine wpAnyH_done (by kernel_rfl) ?_ _
    replace HR:=hid ((HR.out.setH HLT.out (min HH s.lv)).congr fun j _=>hstep.out j);replace HS:=hid hHeld.1;clear hHeld e1 fr E1 FR;generalize w8.setCell ⟨g,k * 2+1,none⟩ (vI (min HH s.lv))=w9 at *
    go_wp2_with fail
    go_roundw
    case rel=>exact ⟨k+1,by have:=HLT.out;omega,by go_num,HS.out,HR.out⟩
    case measure=>simp only [intOf];have:=HLT.out;omega
   ·have hkn:=hid (show k=n by omega)
    have hp:=HR.out.pairs
    rw [hkn.out] at hp
    have HP2:=hid (show Pairs wr (some ⟨g,0,none⟩) n (awC s) from by rw [Qf,Cf,HNL.out];unfold Cs.lowL;rw [Cf,HNL.out];exact hp);have HP3:=hid (HP1.out.below HR.out.bel);have HCO:=hid (Ls (some ⟨g,0,none⟩) A1 n cap (n - 1) c1 (awC s) (Cy s) wr HP2.out HP3.out (by unfold maxLen;omega) (by unfold maxLen;omega) HC1.out.le HC1.out.mx (Qg HGN.out.1 HGN.out.2).err HCL.out)
    have i2:¬ (k:Int)<(n:Int):=by have:=hkn.out;omega
    clear hp HP2 HP3 hlt hk hgw;generalize hdC (Cs.confL (awC s) (Cy s))=p at *
    go_wp2_with fail
    refine (HCO.out).mono ?_;rintro e' w4 ⟨rfl,hB⟩
    replace HS:=hid (HS.out.below hB);clear hB HCO
    go_wp2_with fail
    have HT:Hid (Has (w4.alloc (.cells #[vI p.1,vI p.2] 44)) w4.heap.size (lz2 p.1 p.2)):=hid (Has.new _ _ _);have hge:=HS.out.sz;replace HS:=hid (HS.out.alloc (.cells #[vI p.1,vI p.2] 44));generalize w4.alloc (.cells #[vI p.1,vI p.2] 44)=w5 at *;generalize w4.heap.size=HB5 at *
    refine Ir (S:=fun W=>Has W HB5 (lz2 p.1 p.2)) 5 #[false,false,false,false,false] rfl rfl (by kernel_rfl) (HT.out.drew) (fun hHeld=>?_)
    replace HS:=hid HS.out.drew;generalize w5.drew=w6 at *;obtain ⟨⟨z0,z1⟩,zf⟩:=HCF.out _ HS.out;have HB:=hid HS.out.B
    iterate 3 (refine hF (L:=_) (v:=?_) rfl rfl ?_ ?_;rotate_left;(intro W hW;have y0:=(show Has W HB5 (lz2 p.1 p.2) from hW).cell 0 _ rfl;have y1:=(show Has W HB5 (lz2 p.1 p.2) from hW).cell 1 _ rfl;clear hW;go_simp;try with_reducible rfl);try simp only [Act.put,pa,pb,pc,Rn])
    refine wpAnyH_ready (rs:=[3]) (by kernel_rfl) (by simp) ?_
    refine AllReadyH.cons (o:=_) rfl (fun K hK=>?_) AllReadyH.nil
    go_simp
    have hNew:=((hHeld.other (w.heap.size+1) 0 (vI p.1) (by omega)).other (w.heap.size+1) 1 (vI p.2) (by omega))
    refine hK.out _ _ hNew (fun hHeld2=>?_)
    clear hK K hNew hHeld;have hHeld:=hHeld2;clear hHeld2
    (try simp only [Act.put,pa,pb,pc])
    refine hL 4 4 (v:=?_) rfl rfl ?_ ?_
    rotate_left
    ·intro W hW
     go_simp;try with_reducible rfl
    (try simp only [Act.put,pa,pb,pc])
    refine wpAnyH_done (by kernel_rfl) ?_ _
    clear hHeld
    go_wp2_with fail
    exact bodyPost_ret (v:=.tuple #[.slice none 0 0,.agg #[vI p.1,vI p.2],vI 11]) (by simp [results,Tryz.results46,go_sem,z0,z1]) rfl (OE HE1.out (by decide) HCC.out ((HB.out.setCell (p:=⟨w.heap.size+1,0,none⟩) (by show w.heap.size<=w.heap.size+1;omega) _).setCell (p:=⟨w.heap.size+1,1,none⟩) (by show w.heap.size<=w.heap.size+1;omega) _))
