/- M41: OpenK, OpenPf, OpenSu in one text. -/
import Derived.Test.YtheepmnhpclimaaGreatM8
import Derived.Test.YtheepmnhpclimaaGreatM18
import Derived.Test.YtheepmnhpclimaaGreatFxOps
import Derived.Test.YtheepmnhpclimaaGreatM23
namespace Go.Proofs.YtheepmnhpclimaaGreat
set_option linter.unusedSimpArgs false
set_option linter.unusedVariables false
open Go.RowKit Go.ChangeShapes Go.WideShapes Go.Deep
theorem wf_i64_bd {n:Int} (h:(Lit.int .i64 n).wf=true) : -9223372036854775808≤n∧n≤9223372036854775807:=bounds_i64 h
section
variable {H:Type} {enc:TypeId × Value→H} {P:Program} {w:World} {base:Nat} {spare:Nat→Bool} {held:Bool}
theorem int_field {k:IntKind} {t:TypeId} {n i:Nat} {cs:List Value} {xs:List (DataW H × List MemPlace)} (ht:P.underlying t=some (.int k)) (hi:i<xs.length) (h:DataW.trod enc P w base spare held n t cs=xs[i]?) :
  ∃ m,cs=[.int k m]∧(Lit.int k m).wf=true:=by
 rw [List.getElem?_eq_getElem hi] at h
 obtain ⟨m,h1,_,h2⟩:=DataW.trod_int ht h
 exact ⟨m,h1,h2⟩
theorem el_two {k:IntKind} {t u:TypeId} {n:Nat} {cs:List Value} {y:DataW H × List MemPlace} {f0 f1:Field} (ht:P.underlying t=some (.struct #[f0,f1])) (hu:P.underlying u=some (.int k)) (h0:f0.type=u) (h1:f1.type=u) (o0:f0.offset=0) (o1:f1.offset=1)
  (hC:P.cellsOf t=2) (hE:P.cellsOf u=1) (h:DataW.trod enc P w base spare held n t cs=some y):∃ a b,cs=[.int k a,.int k b]∧(Lit.int k a).wf=true∧(Lit.int k b).wf=true:=by
 obtain ⟨xs,n',_,_,hl,hx,hf⟩:=DataW.trod_struct ht h;have e0:=hf 0 f0 rfl;have e1:=hf 1 f1 rfl
 rw [h0,o0,hE] at e0
 rw [h1,o1,hE] at e1
 obtain ⟨a,ha,wa⟩:=int_field hu (by rw [hx];simp) e0;obtain ⟨b,hb,wb⟩:=int_field hu (by rw [hx];simp) e1
 rw [hC] at hl
 match cs,hl with
 | [c0,c1],_ =>
  simp at ha hb
  subst ha hb
  exact ⟨a,b,rfl,wa,wb⟩
theorem open_agg_list {r:Reach} {b0:Nat} {t:TypeId} {fs:Array Field} {v:Value} {d:DataW H} {p:List MemPlace} (hs:P.underlying t=some (.struct fs))
  (hv:Value.okWide P w r b0 t v) (h:DataW.Trod enc P w base spare held t v d p):∃ cs n,v=.agg ⟨cs⟩∧DataW.trod enc P w base spare held n t cs=some (d,p):=by
 obtain ⟨cs,rfl,hsz⟩:=okWide_struct hs hv;obtain ⟨l⟩:=cs;obtain ⟨fuel,hf⟩:=h
 exact ⟨l,fuel,rfl,by simpa [Value.cells] using hf⟩
end
def WinWf (p:Int × Int):Prop:=I64 p.1∧I64 p.2
end Go.Proofs.YtheepmnhpclimaaGreat

namespace Go.Proofs.YtheepmnhpclimaaGreat
set_option maxRecDepth 100000
set_option linter.unusedSimpArgs false
set_option linter.unusedVariables false
open Go.RowKit Go.ChangeShapes Go.WideShapes Go.Deep
def rowOk (w:World) (r:Row):Prop:=Ints w r.A r.n r.l∧r.n≤maxLen
theorem el_row {H:Type} {enc:TypeId × Value→H} {w:World} {base:Nat} {spare:Nat→Bool} {held:Bool} (n:Nat) (cs:List Value) (y:DataW H × List MemPlace) (h:DataW.trod enc Tryz.prog w base spare held n 23 cs=some y):∃ r:Row,cs=r.cells∧rowOk w r:=by
 obtain ⟨v,rfl⟩:∃ v,cs=[v]:=by
  rcases open_slice Tryz.underlying23 h with ⟨hc,_⟩ | ⟨a,len,cap,m,fu,D,Pl,hc,_⟩
  ·exact ⟨_,hc⟩
  ·exact ⟨_,hc⟩
 obtain ⟨A,n,c,xs,rfl,h1,h2,h3,h4,_⟩:=open_ints_arg Tryz.underlying23 Tryz.underlying2 (by kernel_rfl) h
 exact ⟨⟨A,n,c,xs⟩,rfl,h3,h1⟩
theorem op_perf {H:Type} {enc:TypeId × Value→H} {w:World} {base:Nat} {spare:Nat→Bool} {held:Bool} (n:Nat) (cs:List Value) (y:DataW H × List MemPlace) (h:DataW.trod enc Tryz.prog w base spare held n 26 cs=some y) :
  ∃ (nm:ByteArray) (em:Int) (mf:Int) (alA:Option Addr) (aln:Nat) (alc:Nat) (alx:List Int) (msA:Option Addr) (msn:Nat) (msc:Nat) (msx:List Int) (clA:Option Addr) (cln:Nat) (clc:Nat) (clx:List Row) (cfA:Option Addr) (cfn:Nat) (cfc:Nat) (cfx:List Row) (crA:Option Addr) (crn:Nat) (crc:Nat) (crx:List Row) (deA:Option Addr) (den:Nat) (dec:Nat) (dex:List Int) (idA:Option Addr) (idn:Nat) (idc:Nat) (idx:List Int) (mxA:Option Addr) (mxn:Nat) (mxc:Nat) (mxx:List Int) (mnA:Option Addr) (mnn:Nat) (mnc:Nat) (mnx:List Int) (rf:Int) (ex:Int) (ce:Int),cs=[.string nm,vI em,vI mf,.slice alA aln alc,.slice msA msn msc,.slice clA cln clc,.slice cfA cfn cfc,.slice crA crn crc,.slice deA den dec,.slice idA idn idc,.slice mxA mxn mxc,.slice mnA mnn mnc,vI rf,vI ex,vI ce]∧nm.size≤maxLen∧(Lit.int .i64 em).wf=true∧(Lit.int .i64 mf).wf=true∧aln≤maxLen∧CapOk alA aln alc∧Ints w alA aln alx∧(∀ x ∈ alx,(Lit.int .i64 x).wf=true)∧msn≤maxLen∧CapOk msA msn msc∧Ints w msA msn msx∧(∀ x ∈ msx,(Lit.int .i64 x).wf=true)∧cln≤maxLen∧CapOk clA cln clc∧Recs Row.cells 1 w clA cln clx∧(∀ x ∈ clx,rowOk w x)∧cfn≤maxLen∧CapOk cfA cfn cfc∧Recs Row.cells 1 w cfA cfn cfx∧(∀ x ∈ cfx,rowOk w x)∧crn≤maxLen∧CapOk crA crn crc∧Recs Row.cells 1 w crA crn crx∧(∀ x ∈ crx,rowOk w x)∧den≤maxLen∧CapOk deA den dec∧Ints w deA den dex∧(∀ x ∈ dex,(Lit.int .i64 x).wf=true)∧idn≤maxLen∧CapOk idA idn idc∧Ints w idA idn idx∧(∀ x ∈ idx,(Lit.int .i64 x).wf=true)∧mxn≤maxLen∧CapOk mxA mxn mxc∧Ints w mxA mxn mxx∧(∀ x ∈ mxx,(Lit.int .i64 x).wf=true)∧mnn≤maxLen∧CapOk mnA mnn mnc∧Ints w mnA mnn mnx∧(∀ x ∈ mnx,(Lit.int .i64 x).wf=true)∧(Lit.int .i64 rf).wf=true∧(Lit.int .i64 ex).wf=true∧(Lit.int .i64 ce).wf=true:=by
 obtain ⟨xs,n',_,_,hlen,hx,hf⟩:=DataW.trod_struct Tryz.underlying26 h
 rw [show Tryz.prog.cellsOf 26 = 15 by kernel_rfl] at hlen
 match cs,hlen with
 | [c0,c1,c2,c3,c4,c5,c6,c7,c8,c9,c10,c11,c12,c13,c14],_ =>
  have e0:DataW.trod enc Tryz.prog w base spare held n' 9 [c0]=xs[0]?:=by
   have:=hf 0 _ rfl
   first | exact this | (rw [show Tryz.prog.cellsOf 9 = 1 by kernel_rfl] at this;exact this)
  have i0:0<xs.length:=by first | omega | (rw [hx];decide)
  rw [List.getElem?_eq_getElem i0] at e0
  obtain ⟨nm,h0,_,w0⟩:=DataW.trod_string Tryz.underlying9 e0
  obtain rfl:c0=.string nm:=by injection h0
  have e1:DataW.trod enc Tryz.prog w base spare held n' 2 [c1]=xs[1]?:=by
   have:=hf 1 _ rfl
   first | exact this | (rw [show Tryz.prog.cellsOf 2 = 1 by kernel_rfl] at this;exact this)
  have i1:1<xs.length:=by first | omega | (rw [hx];decide)
  rw [List.getElem?_eq_getElem i1] at e1
  obtain ⟨em,h1,w1⟩:=el_int (k:=.i64) Tryz.underlying2 _ _ _ e1
  obtain rfl:c1=vI em:=by injection h1
  have e2:DataW.trod enc Tryz.prog w base spare held n' 2 [c2]=xs[2]?:=by
   have:=hf 2 _ rfl
   first | exact this | (rw [show Tryz.prog.cellsOf 2 = 1 by kernel_rfl] at this;exact this)
  have i2:2<xs.length:=by first | omega | (rw [hx];decide)
  rw [List.getElem?_eq_getElem i2] at e2
  obtain ⟨mf,h2,w2⟩:=el_int (k:=.i64) Tryz.underlying2 _ _ _ e2
  obtain rfl:c2=vI mf:=by injection h2
  have e3:DataW.trod enc Tryz.prog w base spare held n' 23 [c3]=xs[3]?:=by
   have:=hf 3 _ rfl
   first | exact this | (rw [show Tryz.prog.cellsOf 23 = 1 by kernel_rfl] at this;exact this)
  have i3:3<xs.length:=by first | omega | (rw [hx];decide)
  rw [List.getElem?_eq_getElem i3] at e3
  obtain ⟨alA,aln,alc,alx,rfl,w3a,w3b,w3c,w3d,_⟩:=open_ints_arg Tryz.underlying23 Tryz.underlying2 (by kernel_rfl) e3
  have e4:DataW.trod enc Tryz.prog w base spare held n' 23 [c4]=xs[4]?:=by
   have:=hf 4 _ rfl
   first | exact this | (rw [show Tryz.prog.cellsOf 23 = 1 by kernel_rfl] at this;exact this)
  have i4:4<xs.length:=by first | omega | (rw [hx];decide)
  rw [List.getElem?_eq_getElem i4] at e4
  obtain ⟨msA,msn,msc,msx,rfl,w4a,w4b,w4c,w4d,_⟩:=open_ints_arg Tryz.underlying23 Tryz.underlying2 (by kernel_rfl) e4
  have e5:DataW.trod enc Tryz.prog w base spare held n' 24 [c5]=xs[5]?:=by
   have:=hf 5 _ rfl
   first | exact this | (rw [show Tryz.prog.cellsOf 24 = 1 by kernel_rfl] at this;exact this)
  have i5:5<xs.length:=by first | omega | (rw [hx];decide)
  rw [List.getElem?_eq_getElem i5] at e5
  obtain ⟨clA,cln,clc,clx,rfl,w5a,w5b,w5c,w5d,_⟩:=open_recs Row.cells 1 (by decide) (fun _=>rfl) (rowOk w) Tryz.underlying24 (by kernel_rfl) el_row e5
  have e6:DataW.trod enc Tryz.prog w base spare held n' 24 [c6]=xs[6]?:=by
   have:=hf 6 _ rfl
   first | exact this | (rw [show Tryz.prog.cellsOf 24 = 1 by kernel_rfl] at this;exact this)
  have i6:6<xs.length:=by first | omega | (rw [hx];decide)
  rw [List.getElem?_eq_getElem i6] at e6
  obtain ⟨cfA,cfn,cfc,cfx,rfl,w6a,w6b,w6c,w6d,_⟩:=open_recs Row.cells 1 (by decide) (fun _=>rfl) (rowOk w) Tryz.underlying24 (by kernel_rfl) el_row e6
  have e7:DataW.trod enc Tryz.prog w base spare held n' 24 [c7]=xs[7]?:=by
   have:=hf 7 _ rfl
   first | exact this | (rw [show Tryz.prog.cellsOf 24 = 1 by kernel_rfl] at this;exact this)
  have i7:7<xs.length:=by first | omega | (rw [hx];decide)
  rw [List.getElem?_eq_getElem i7] at e7
  obtain ⟨crA,crn,crc,crx,rfl,w7a,w7b,w7c,w7d,_⟩:=open_recs Row.cells 1 (by decide) (fun _=>rfl) (rowOk w) Tryz.underlying24 (by kernel_rfl) el_row e7
  have e8:DataW.trod enc Tryz.prog w base spare held n' 23 [c8]=xs[8]?:=by
   have:=hf 8 _ rfl
   first | exact this | (rw [show Tryz.prog.cellsOf 23 = 1 by kernel_rfl] at this;exact this)
  have i8:8<xs.length:=by first | omega | (rw [hx];decide)
  rw [List.getElem?_eq_getElem i8] at e8
  obtain ⟨deA,den,dec,dex,rfl,w8a,w8b,w8c,w8d,_⟩:=open_ints_arg Tryz.underlying23 Tryz.underlying2 (by kernel_rfl) e8
  have e9:DataW.trod enc Tryz.prog w base spare held n' 23 [c9]=xs[9]?:=by
   have:=hf 9 _ rfl
   first | exact this | (rw [show Tryz.prog.cellsOf 23 = 1 by kernel_rfl] at this;exact this)
  have i9:9<xs.length:=by first | omega | (rw [hx];decide)
  rw [List.getElem?_eq_getElem i9] at e9
  obtain ⟨idA,idn,idc,idx,rfl,w9a,w9b,w9c,w9d,_⟩:=open_ints_arg Tryz.underlying23 Tryz.underlying2 (by kernel_rfl) e9
  have e10:DataW.trod enc Tryz.prog w base spare held n' 23 [c10]=xs[10]?:=by
   have:=hf 10 _ rfl
   first | exact this | (rw [show Tryz.prog.cellsOf 23 = 1 by kernel_rfl] at this;exact this)
  have i10:10<xs.length:=by first | omega | (rw [hx];decide)
  rw [List.getElem?_eq_getElem i10] at e10
  obtain ⟨mxA,mxn,mxc,mxx,rfl,w10a,w10b,w10c,w10d,_⟩:=open_ints_arg Tryz.underlying23 Tryz.underlying2 (by kernel_rfl) e10
  have e11:DataW.trod enc Tryz.prog w base spare held n' 23 [c11]=xs[11]?:=by
   have:=hf 11 _ rfl
   first | exact this | (rw [show Tryz.prog.cellsOf 23 = 1 by kernel_rfl] at this;exact this)
  have i11:11<xs.length:=by first | omega | (rw [hx];decide)
  rw [List.getElem?_eq_getElem i11] at e11
  obtain ⟨mnA,mnn,mnc,mnx,rfl,w11a,w11b,w11c,w11d,_⟩:=open_ints_arg Tryz.underlying23 Tryz.underlying2 (by kernel_rfl) e11
  have e12:DataW.trod enc Tryz.prog w base spare held n' 2 [c12]=xs[12]?:=by
   have:=hf 12 _ rfl
   first | exact this | (rw [show Tryz.prog.cellsOf 2 = 1 by kernel_rfl] at this;exact this)
  have i12:12<xs.length:=by first | omega | (rw [hx];decide)
  rw [List.getElem?_eq_getElem i12] at e12
  obtain ⟨rf,h12,w12⟩:=el_int (k:=.i64) Tryz.underlying2 _ _ _ e12
  obtain rfl:c12=vI rf:=by injection h12
  have e13:DataW.trod enc Tryz.prog w base spare held n' 2 [c13]=xs[13]?:=by
   have:=hf 13 _ rfl
   first | exact this | (rw [show Tryz.prog.cellsOf 2 = 1 by kernel_rfl] at this;exact this)
  have i13:13<xs.length:=by first | omega | (rw [hx];decide)
  rw [List.getElem?_eq_getElem i13] at e13
  obtain ⟨ex,h13,w13⟩:=el_int (k:=.i64) Tryz.underlying2 _ _ _ e13
  obtain rfl:c13=vI ex:=by injection h13
  have e14:DataW.trod enc Tryz.prog w base spare held n' 2 [c14]=xs[14]?:=by
   have:=hf 14 _ rfl
   first | exact this | (rw [show Tryz.prog.cellsOf 2 = 1 by kernel_rfl] at this;exact this)
  have i14:14<xs.length:=by first | omega | (rw [hx];decide)
  rw [List.getElem?_eq_getElem i14] at e14
  obtain ⟨ce,h14,w14⟩:=el_int (k:=.i64) Tryz.underlying2 _ _ _ e14
  obtain rfl:c14=vI ce:=by injection h14
  exact ⟨nm,em,mf,alA,aln,alc,alx,msA,msn,msc,msx,clA,cln,clc,clx,cfA,cfn,cfc,cfx,crA,crn,crc,crx,deA,den,dec,dex,idA,idn,idc,idx,mxA,mxn,mxc,mxx,mnA,mnn,mnc,mnx,rf,ex,ce,rfl,w0,w1,w2,w3a,w3b,w3c,w3d,w4a,w4b,w4c,w4d,w5a,w5b,w5c,w5d,w6a,w6b,w6c,w6d,w7a,w7b,w7c,w7d,w8a,w8b,w8c,w8d,w9a,w9b,w9c,w9d,w10a,w10b,w10c,w10d,w11a,w11b,w11c,w11d,w12,w13,w14⟩
theorem op_prf {H:Type} {enc:TypeId × Value→H} {w:World} {base:Nat} {spare:Nat→Bool} {held:Bool} (n:Nat) (cs:List Value) (y:DataW H × List MemPlace) (h:DataW.trod enc Tryz.prog w base spare held n 26 cs=some y) :
  ∃ p:Prf,cs=p.cells∧p.lies w∧p.ok∧(I64 p.em∧I64 p.mf∧I64 p.rf∧I64 p.ex∧I64 p.ce):=by
 obtain ⟨nm,em,mf,alA,aln,alc,alx,msA,msn,msc,msx,clA,cln,clc,clx,cfA,cfn,cfc,cfx,crA,crn,crc,crx,deA,den,dec,dex,idA,idn,idc,idx,mxA,mxn,mxc,mxx,mnA,mnn,mnc,mnx,rf,ex,ce,h1,f0,f1,f2,f3,f4,f5,f6,f7,f8,f9,f10,f11,f12,f13,f14,f15,f16,f17,f18,f19,f20,f21,f22,f23,f24,f25,f26,f27,f28,f29,f30,f31,f32,f33,f34,f35,f36,f37,f38,f39,f40,f41⟩:=op_perf n cs y h
 exact ⟨⟨nm,em,mf,⟨alA,aln,alc⟩,⟨msA,msn,msc⟩,⟨clA,cln,clc⟩,⟨cfA,cfn,cfc⟩,⟨crA,crn,crc⟩,⟨deA,den,dec⟩,⟨idA,idn,idc⟩,⟨mxA,mxn,mxc⟩,⟨mnA,mnn,mnc⟩,rf,ex,ce,alx,msx,clx,cfx,crx,dex,idx,mxx,mnx⟩,h1,⟨f5,f9,⟨f13,fun r hr=>(f14 r hr).1⟩,⟨f17,fun r hr=>(f18 r hr).1⟩,⟨f21,fun r hr=>(f22 r hr).1⟩,f25,f29,f33,f37⟩,
  ⟨f0,f3,f7,f11,f15,f19,f23,f27,f31,f35,fun r hr=>(f14 r hr).2,fun r hr=>(f18 r hr).2,fun r hr=>(f22 r hr).2⟩,wf_i64_bd f1,wf_i64_bd f2,wf_i64_bd f39,wf_i64_bd f40,wf_i64_bd f41⟩
end Go.Proofs.YtheepmnhpclimaaGreat

namespace Go.Proofs.YtheepmnhpclimaaGreat
set_option maxRecDepth 100000
set_option linter.unusedSimpArgs false
set_option linter.unusedVariables false
open Go.RowKit Go.ChangeShapes Go.WideShapes Go.Deep
theorem op_pt7 {H:Type} {enc:TypeId × Value→H} {w:World} {base:Nat} {spare:Nat→Bool} {held:Bool} (n:Nat) (cs:List Value) (y:DataW H × List MemPlace) (h:DataW.trod enc Tryz.prog w base spare held n 28 cs=some y) :
  ∃ (px:Int) (py:Int),cs=(lz2 px py)∧(Lit.int .i64 px).wf=true∧(Lit.int .i64 py).wf=true:=by
 obtain ⟨xs,n',_,_,hlen,hx,hf⟩:=DataW.trod_struct Tryz.underlying28 h
 rw [show Tryz.prog.cellsOf 28 = 2 by kernel_rfl] at hlen
 match cs,hlen with
 | [c0,c1],_ =>
  have e0:DataW.trod enc Tryz.prog w base spare held n' 2 [c0]=xs[0]?:=by
   have:=hf 0 _ rfl
   first | exact this | (rw [show Tryz.prog.cellsOf 2 = 1 by kernel_rfl] at this;exact this)
  have i0:0<xs.length:=by first | omega | (rw [hx];decide)
  rw [List.getElem?_eq_getElem i0] at e0
  obtain ⟨px,h0,w0⟩:=el_int (k:=.i64) Tryz.underlying2 _ _ _ e0
  obtain rfl:c0=vI px:=by injection h0
  have e1:DataW.trod enc Tryz.prog w base spare held n' 2 [c1]=xs[1]?:=by
   have:=hf 1 _ rfl
   first | exact this | (rw [show Tryz.prog.cellsOf 2 = 1 by kernel_rfl] at this;exact this)
  have i1:1<xs.length:=by first | omega | (rw [hx];decide)
  rw [List.getElem?_eq_getElem i1] at e1
  obtain ⟨py,h1,w1⟩:=el_int (k:=.i64) Tryz.underlying2 _ _ _ e1
  obtain rfl:c1=vI py:=by injection h1
  exact ⟨px,py,rfl,w0,w1⟩
theorem op_wn7 {H:Type} {enc:TypeId × Value→H} {w:World} {base:Nat} {spare:Nat→Bool} {held:Bool} (n:Nat) (cs:List Value) (y:DataW H × List MemPlace) (h:DataW.trod enc Tryz.prog w base spare held n 43 cs=some y) :
  ∃ (lo:Int) (hi:Int),cs=(lz2 lo hi)∧(Lit.int .i64 lo).wf=true∧(Lit.int .i64 hi).wf=true:=by
 obtain ⟨xs,n',_,_,hlen,hx,hf⟩:=DataW.trod_struct Tryz.underlying43 h
 rw [show Tryz.prog.cellsOf 43 = 2 by kernel_rfl] at hlen
 match cs,hlen with
 | [c0,c1],_ =>
  have e0:DataW.trod enc Tryz.prog w base spare held n' 2 [c0]=xs[0]?:=by
   have:=hf 0 _ rfl
   first | exact this | (rw [show Tryz.prog.cellsOf 2 = 1 by kernel_rfl] at this;exact this)
  have i0:0<xs.length:=by first | omega | (rw [hx];decide)
  rw [List.getElem?_eq_getElem i0] at e0
  obtain ⟨lo,h0,w0⟩:=el_int (k:=.i64) Tryz.underlying2 _ _ _ e0
  obtain rfl:c0=vI lo:=by injection h0
  have e1:DataW.trod enc Tryz.prog w base spare held n' 2 [c1]=xs[1]?:=by
   have:=hf 1 _ rfl
   first | exact this | (rw [show Tryz.prog.cellsOf 2 = 1 by kernel_rfl] at this;exact this)
  have i1:1<xs.length:=by first | omega | (rw [hx];decide)
  rw [List.getElem?_eq_getElem i1] at e1
  obtain ⟨hi,h1,w1⟩:=el_int (k:=.i64) Tryz.underlying2 _ _ _ e1
  obtain rfl:c1=vI hi:=by injection h1
  exact ⟨lo,hi,rfl,w0,w1⟩
theorem op_nd7 {H:Type} {enc:TypeId × Value→H} {w:World} {base:Nat} {spare:Nat→Bool} {held:Bool} (n:Nat) (cs:List Value) (y:DataW H × List MemPlace) (h:DataW.trod enc Tryz.prog w base spare held n 45 cs=some y) :
  ∃ (px:Int) (py:Int) (di:Int) (alo:Int) (ahi:Int) (slo:Int) (shi:Int),cs=(lz7 px py di alo ahi slo shi)∧(Lit.int .i64 px).wf=true∧(Lit.int .i64 py).wf=true∧(Lit.int .i64 di).wf=true∧(Lit.int .i64 alo).wf=true∧(Lit.int .i64 ahi).wf=true∧(Lit.int .i64 slo).wf=true∧(Lit.int .i64 shi).wf=true:=by
 obtain ⟨xs,n',_,_,hlen,hx,hf⟩:=DataW.trod_struct Tryz.underlying45 h
 rw [show Tryz.prog.cellsOf 45 = 7 by kernel_rfl] at hlen
 match cs,hlen with
 | [c0,c1,c2,c3,c4,c5,c6],_ =>
  have e0:DataW.trod enc Tryz.prog w base spare held n' 28 [c0,c1]=xs[0]?:=by
   have:=hf 0 _ rfl
   first | exact this | (rw [show Tryz.prog.cellsOf 28 = 2 by kernel_rfl] at this;exact this)
  have i0:0<xs.length:=by first | omega | (rw [hx];decide)
  rw [List.getElem?_eq_getElem i0] at e0
  obtain ⟨px,py,h0,w0_0,w0_1⟩:=op_pt7 _ _ _ e0
  obtain ⟨rfl,rfl⟩:c0=vI px∧c1=vI py:=by simpa using h0
  have e1:DataW.trod enc Tryz.prog w base spare held n' 2 [c2]=xs[1]?:=by
   have:=hf 1 _ rfl
   first | exact this | (rw [show Tryz.prog.cellsOf 2 = 1 by kernel_rfl] at this;exact this)
  have i1:1<xs.length:=by first | omega | (rw [hx];decide)
  rw [List.getElem?_eq_getElem i1] at e1
  obtain ⟨di,h1,w1⟩:=el_int (k:=.i64) Tryz.underlying2 _ _ _ e1
  obtain rfl:c2=vI di:=by injection h1
  have e2:DataW.trod enc Tryz.prog w base spare held n' 43 [c3,c4]=xs[2]?:=by
   have:=hf 2 _ rfl
   first | exact this | (rw [show Tryz.prog.cellsOf 43 = 2 by kernel_rfl] at this;exact this)
  have i2:2<xs.length:=by first | omega | (rw [hx];decide)
  rw [List.getElem?_eq_getElem i2] at e2
  obtain ⟨alo,ahi,h2,w2_0,w2_1⟩:=op_wn7 _ _ _ e2
  obtain ⟨rfl,rfl⟩:c3=vI alo∧c4=vI ahi:=by simpa using h2
  have e3:DataW.trod enc Tryz.prog w base spare held n' 43 [c5,c6]=xs[3]?:=by
   have:=hf 3 _ rfl
   first | exact this | (rw [show Tryz.prog.cellsOf 43 = 2 by kernel_rfl] at this;exact this)
  have i3:3<xs.length:=by first | omega | (rw [hx];decide)
  rw [List.getElem?_eq_getElem i3] at e3
  obtain ⟨slo,shi,h3,w3_0,w3_1⟩:=op_wn7 _ _ _ e3
  obtain ⟨rfl,rfl⟩:c5=vI slo∧c6=vI shi:=by simpa using h3
  exact ⟨px,py,di,alo,ahi,slo,shi,rfl,w0_0,w0_1,w1,w2_0,w2_1,w3_0,w3_1⟩
structure NodOk (n:Nod):Prop where
 px:I64 n.px
 py:I64 n.py
 di:I64 n.di
 a0:I64 n.a0
 a1:I64 n.a1
 s0:I64 n.s0
 s1:I64 n.s1
theorem el_nod {H:Type} {enc:TypeId × Value→H} {w:World} {base:Nat} {spare:Nat→Bool} {held:Bool} (n:Nat) (cs:List Value) (y:DataW H × List MemPlace) (h:DataW.trod enc Tryz.prog w base spare held n 45 cs=some y):∃ x:Nod,cs=x.cells∧NodOk x:=by
 obtain ⟨px,py,di,alo,ahi,slo,shi,h1,w1,w2,w3,w4,w5,w6,w7⟩:=op_nd7 n cs y h
 exact ⟨⟨px,py,di,alo,ahi,slo,shi⟩,h1,wf_i64_bd w1,wf_i64_bd w2,wf_i64_bd w3,wf_i64_bd w4,wf_i64_bd w5,wf_i64_bd w6,wf_i64_bd w7⟩
theorem el_wnd {H:Type} {enc:TypeId × Value→H} {w:World} {base:Nat} {spare:Nat→Bool} {held:Bool} (n:Nat) (cs:List Value) (y:DataW H × List MemPlace) (h:DataW.trod enc Tryz.prog w base spare held n 89 cs=some y):∃ x,cs=win x∧WinWf x:=by
 obtain ⟨a,b,rfl,wa,wb⟩:=el_two Tryz.underlying89 Tryz.underlying2 rfl rfl rfl rfl (by kernel_rfl) (by kernel_rfl) h
 exact ⟨(a,b),rfl,wf_i64_bd wa,wf_i64_bd wb⟩
theorem op_gr7 {H:Type} {enc:TypeId × Value→H} {w:World} {base:Nat} {spare:Nat→Bool} {held:Bool} (n:Nat) (cs:List Value) (y:DataW H × List MemPlace) (h:DataW.trod enc Tryz.prog w base spare held n 31 cs=some y) :
  ∃ (cpx:Int) (cpy:Int) (ce:Int) (nx:Int) (ny:Int) (alA:Option Addr) (aln:Nat) (alc:Nat) (alx:List Int) (wiA:Option Addr) (win_:Nat) (wic:Nat) (wix:List (Int × Int)) (deA:Option Addr) (den:Nat) (dec:Nat) (dex:List Int) (er:Int),cs=[vI cpx,vI cpy,vI ce,vI nx,vI ny,.slice alA aln alc,.slice wiA win_ wic,.slice deA den dec,vI er]∧(Lit.int .i64 cpx).wf=true∧(Lit.int .i64 cpy).wf=true∧(Lit.int .i64 ce).wf=true∧(Lit.int .i64 nx).wf=true∧(Lit.int .i64 ny).wf=true∧aln≤maxLen∧CapOk alA aln alc∧Ints w alA aln alx∧(∀ x ∈ alx,(Lit.int .i64 x).wf=true)∧win_≤maxLen∧CapOk wiA win_ wic∧Recs win 2 w wiA win_ wix∧(∀ x ∈ wix,WinWf x)∧den≤maxLen∧CapOk deA den dec∧Ints w deA den dex∧(∀ x ∈ dex,(Lit.int .i64 x).wf=true)∧(Lit.int .i64 er).wf=true:=by
 obtain ⟨xs,n',_,_,hlen,hx,hf⟩:=DataW.trod_struct Tryz.underlying31 h
 rw [show Tryz.prog.cellsOf 31 = 9 by kernel_rfl] at hlen
 match cs,hlen with
 | [c0,c1,c2,c3,c4,c5,c6,c7,c8],_ =>
  have e0:DataW.trod enc Tryz.prog w base spare held n' 28 [c0,c1]=xs[0]?:=by
   have:=hf 0 _ rfl
   first | exact this | (rw [show Tryz.prog.cellsOf 28 = 2 by kernel_rfl] at this;exact this)
  have i0:0<xs.length:=by first | omega | (rw [hx];decide)
  rw [List.getElem?_eq_getElem i0] at e0
  obtain ⟨cpx,cpy,h0,w0_0,w0_1⟩:=op_pt7 _ _ _ e0
  obtain ⟨rfl,rfl⟩:c0=vI cpx∧c1=vI cpy:=by simpa using h0
  have e1:DataW.trod enc Tryz.prog w base spare held n' 2 [c2]=xs[1]?:=by
   have:=hf 1 _ rfl
   first | exact this | (rw [show Tryz.prog.cellsOf 2 = 1 by kernel_rfl] at this;exact this)
  have i1:1<xs.length:=by first | omega | (rw [hx];decide)
  rw [List.getElem?_eq_getElem i1] at e1
  obtain ⟨ce,h1,w1⟩:=el_int (k:=.i64) Tryz.underlying2 _ _ _ e1
  obtain rfl:c2=vI ce:=by injection h1
  have e2:DataW.trod enc Tryz.prog w base spare held n' 3 [c3]=xs[2]?:=by
   have:=hf 2 _ rfl
   first | exact this | (rw [show Tryz.prog.cellsOf 3 = 1 by kernel_rfl] at this;exact this)
  have i2:2<xs.length:=by first | omega | (rw [hx];decide)
  rw [List.getElem?_eq_getElem i2] at e2
  obtain ⟨nx,h2,w2⟩:=el_int (k:=.i64) Tryz.underlying3 _ _ _ e2
  obtain rfl:c3=vI nx:=by injection h2
  have e3:DataW.trod enc Tryz.prog w base spare held n' 3 [c4]=xs[3]?:=by
   have:=hf 3 _ rfl
   first | exact this | (rw [show Tryz.prog.cellsOf 3 = 1 by kernel_rfl] at this;exact this)
  have i3:3<xs.length:=by first | omega | (rw [hx];decide)
  rw [List.getElem?_eq_getElem i3] at e3
  obtain ⟨ny,h3,w3⟩:=el_int (k:=.i64) Tryz.underlying3 _ _ _ e3
  obtain rfl:c4=vI ny:=by injection h3
  have e4:DataW.trod enc Tryz.prog w base spare held n' 23 [c5]=xs[4]?:=by
   have:=hf 4 _ rfl
   first | exact this | (rw [show Tryz.prog.cellsOf 23 = 1 by kernel_rfl] at this;exact this)
  have i4:4<xs.length:=by first | omega | (rw [hx];decide)
  rw [List.getElem?_eq_getElem i4] at e4
  obtain ⟨alA,aln,alc,alx,rfl,w4a,w4b,w4c,w4d,_⟩:=open_ints_arg Tryz.underlying23 Tryz.underlying2 (by kernel_rfl) e4
  have e5:DataW.trod enc Tryz.prog w base spare held n' 29 [c6]=xs[5]?:=by
   have:=hf 5 _ rfl
   first | exact this | (rw [show Tryz.prog.cellsOf 29 = 1 by kernel_rfl] at this;exact this)
  have i5:5<xs.length:=by first | omega | (rw [hx];decide)
  rw [List.getElem?_eq_getElem i5] at e5
  obtain ⟨wiA,win_,wic,wix,rfl,w5a,w5b,w5c,w5d,_⟩:=open_recs win 2 (by decide) (fun _=>rfl) WinWf Tryz.underlying29 (by kernel_rfl) el_wnd e5
  have e6:DataW.trod enc Tryz.prog w base spare held n' 23 [c7]=xs[6]?:=by
   have:=hf 6 _ rfl
   first | exact this | (rw [show Tryz.prog.cellsOf 23 = 1 by kernel_rfl] at this;exact this)
  have i6:6<xs.length:=by first | omega | (rw [hx];decide)
  rw [List.getElem?_eq_getElem i6] at e6
  obtain ⟨deA,den,dec,dex,rfl,w6a,w6b,w6c,w6d,_⟩:=open_ints_arg Tryz.underlying23 Tryz.underlying2 (by kernel_rfl) e6
  have e7:DataW.trod enc Tryz.prog w base spare held n' 2 [c8]=xs[7]?:=by
   have:=hf 7 _ rfl
   first | exact this | (rw [show Tryz.prog.cellsOf 2 = 1 by kernel_rfl] at this;exact this)
  have i7:7<xs.length:=by first | omega | (rw [hx];decide)
  rw [List.getElem?_eq_getElem i7] at e7
  obtain ⟨er,h7,w7⟩:=el_int (k:=.i64) Tryz.underlying2 _ _ _ e7
  obtain rfl:c8=vI er:=by injection h7
  exact ⟨cpx,cpy,ce,nx,ny,alA,aln,alc,alx,wiA,win_,wic,wix,deA,den,dec,dex,er,rfl,w0_0,w0_1,w1,w2,w3,w4a,w4b,w4c,w4d,w5a,w5b,w5c,w5d,w6a,w6b,w6c,w6d,w7⟩
theorem op_grd {H:Type} {enc:TypeId × Value→H} {w:World} {base:Nat} {spare:Nat→Bool} {held:Bool} (n:Nat) (cs:List Value) (y:DataW H × List MemPlace) (h:DataW.trod enc Tryz.prog w base spare held n 31 cs=some y) :
  ∃ g:Grd,cs=g.cells∧g.lies w∧g.ok∧(I64 g.ce∧I64 g.er):=by
 obtain ⟨cpx,cpy,ce,nx,ny,alA,aln,alc,alx,wiA,win_,wic,wix,deA,den,dec,dex,er,h1,f0,f1,f2,f3,f4,f5,f6,f7,f8,f9,f10,f11,f12,f13,f14,f15,f16,f17⟩:=op_gr7 n cs y h
 exact ⟨⟨cpx,cpy,ce,nx,ny,⟨alA,aln,alc⟩,⟨wiA,win_,wic⟩,⟨deA,den,dec⟩,er,alx,wix,dex⟩,h1,⟨f7,f11,f15⟩,⟨wf_i64_bd f0,wf_i64_bd f1,wf_i64_bd f2,wf_i64_bd f3,wf_i64_bd f4,f5,f9,f13⟩,wf_i64_bd f2,wf_i64_bd f17⟩
theorem op_ac7 {H:Type} {enc:TypeId × Value→H} {w:World} {base:Nat} {spare:Nat→Bool} {held:Bool} (n:Nat) (cs:List Value) (y:DataW H × List MemPlace) (h:DataW.trod enc Tryz.prog w base spare held n 33 cs=some y) :
  ∃ (em:Int) (ld:Int) (rs:Int) (bu:Int),cs=(lz4 em ld rs bu)∧(Lit.int .i64 em).wf=true∧(Lit.int .i64 ld).wf=true∧(Lit.int .i64 rs).wf=true∧(Lit.int .i64 bu).wf=true:=by
 obtain ⟨xs,n',_,_,hlen,hx,hf⟩:=DataW.trod_struct Tryz.underlying33 h
 rw [show Tryz.prog.cellsOf 33 = 4 by kernel_rfl] at hlen
 match cs,hlen with
 | [c0,c1,c2,c3],_ =>
  have e0:DataW.trod enc Tryz.prog w base spare held n' 2 [c0]=xs[0]?:=by
   have:=hf 0 _ rfl
   first | exact this | (rw [show Tryz.prog.cellsOf 2 = 1 by kernel_rfl] at this;exact this)
  have i0:0<xs.length:=by first | omega | (rw [hx];decide)
  rw [List.getElem?_eq_getElem i0] at e0
  obtain ⟨em,h0,w0⟩:=el_int (k:=.i64) Tryz.underlying2 _ _ _ e0
  obtain rfl:c0=vI em:=by injection h0
  have e1:DataW.trod enc Tryz.prog w base spare held n' 2 [c1]=xs[1]?:=by
   have:=hf 1 _ rfl
   first | exact this | (rw [show Tryz.prog.cellsOf 2 = 1 by kernel_rfl] at this;exact this)
  have i1:1<xs.length:=by first | omega | (rw [hx];decide)
  rw [List.getElem?_eq_getElem i1] at e1
  obtain ⟨ld,h1,w1⟩:=el_int (k:=.i64) Tryz.underlying2 _ _ _ e1
  obtain rfl:c1=vI ld:=by injection h1
  have e2:DataW.trod enc Tryz.prog w base spare held n' 2 [c2]=xs[2]?:=by
   have:=hf 2 _ rfl
   first | exact this | (rw [show Tryz.prog.cellsOf 2 = 1 by kernel_rfl] at this;exact this)
  have i2:2<xs.length:=by first | omega | (rw [hx];decide)
  rw [List.getElem?_eq_getElem i2] at e2
  obtain ⟨rs,h2,w2⟩:=el_int (k:=.i64) Tryz.underlying2 _ _ _ e2
  obtain rfl:c2=vI rs:=by injection h2
  have e3:DataW.trod enc Tryz.prog w base spare held n' 2 [c3]=xs[3]?:=by
   have:=hf 3 _ rfl
   first | exact this | (rw [show Tryz.prog.cellsOf 2 = 1 by kernel_rfl] at this;exact this)
  have i3:3<xs.length:=by first | omega | (rw [hx];decide)
  rw [List.getElem?_eq_getElem i3] at e3
  obtain ⟨bu,h3,w3⟩:=el_int (k:=.i64) Tryz.underlying2 _ _ _ e3
  obtain rfl:c3=vI bu:=by injection h3
  exact ⟨em,ld,rs,bu,rfl,w0,w1,w2,w3⟩
theorem op_acc {H:Type} {enc:TypeId × Value→H} {w:World} {base:Nat} {spare:Nat→Bool} {held:Bool} (n:Nat) (cs:List Value) (y:DataW H × List MemPlace) (h:DataW.trod enc Tryz.prog w base spare held n 33 cs=some y) :
  ∃ a:Acc,cs=a.cells∧I64 a.em∧I64 a.ld∧I64 a.rs∧I64 a.bu:=by
 obtain ⟨em,ld,rs,bu,h1,w1,w2,w3,w4⟩:=op_ac7 n cs y h
 exact ⟨⟨em,ld,rs,bu⟩,h1,wf_i64_bd w1,wf_i64_bd w2,wf_i64_bd w3,wf_i64_bd w4⟩
structure StpW (s:Stp):Prop where
 no:∀ x ∈ s.no,NodOk x
 cap:CapOk s.sno.A s.sno.n s.sno.c
 ac:I64 s.ac.rs∧I64 s.ac.bu
 er:I64 s.gr.er
 lv:I64 s.lv
 cas:I64 s.cas
 mch:I64 s.mch
 acc:I64 s.acc
 dec:I64 s.dec
 la:I64 s.la
 ls:I64 s.ls
theorem op_su {H:Type} {enc:TypeId × Value→H} {w:World} {base:Nat} {spare:Nat→Bool} {held:Bool} (n:Nat) (cs:List Value) (y:DataW H × List MemPlace) (h:DataW.trod enc Tryz.prog w base spare held n 35 cs=some y) :
  ∃ s:Stp,cs=s.cells∧s.lies w∧s.ok∧StpW s:=by
 obtain ⟨xs,n',_,_,hlen,hx,hf⟩:=DataW.trod_struct Tryz.underlying35 h
 rw [show Tryz.prog.cellsOf 35 = 36 by kernel_rfl] at hlen
 match cs,hlen with
 | z0_ :: z1_ :: z2_ :: z3_ :: z4_ :: z5_ :: z6_ :: z7_ :: z8_ :: z9_ :: z10_ :: z11_ :: z12_ :: z13_ :: z14_ :: z15_ :: z16_ :: z17_ :: z18_ :: z19_ :: z20_ :: z21_ :: z22_ :: z23_ :: z24_ :: z25_ :: z26_ :: z27_ :: z28_ :: z29_ :: z30_ :: z31_ :: z32_ :: z33_ :: z34_ :: z35_ :: [],_ =>
  have e0:DataW.trod enc Tryz.prog w base spare held n' 22 [z0_]=xs[0]?:=by
   have:=hf 0 _ rfl
   first | exact this | (rw [show Tryz.prog.cellsOf 22 = 1 by kernel_rfl] at this;exact this)
  have i0:0<xs.length:=by first | omega | (rw [hx];decide)
  rw [List.getElem?_eq_getElem i0] at e0
  obtain ⟨A,m,c,no,rfl,n1,n2,n3,n4,_⟩:=open_recs Nod.cells 7 (by decide) (fun _=>rfl) NodOk Tryz.underlying22 (by kernel_rfl) el_nod e0
  have e1:DataW.trod enc Tryz.prog w base spare held n' 26 [z1_,z2_,z3_,z4_,z5_,z6_,z7_,z8_,z9_,z10_,z11_,z12_,z13_,z14_,z15_]=xs[1]?:=by
   have:=hf 1 _ rfl
   first | exact this | (rw [show Tryz.prog.cellsOf 26 = 15 by kernel_rfl] at this;exact this)
  have i1:1<xs.length:=by first | omega | (rw [hx];decide)
  rw [List.getElem?_eq_getElem i1] at e1
  obtain ⟨pf,q1,q2,q3,q4⟩:=op_prf _ _ _ e1
  have e2:DataW.trod enc Tryz.prog w base spare held n' 31 [z16_,z17_,z18_,z19_,z20_,z21_,z22_,z23_,z24_]=xs[2]?:=by
   have:=hf 2 _ rfl
   first | exact this | (rw [show Tryz.prog.cellsOf 31 = 9 by kernel_rfl] at this;exact this)
  have i2:2<xs.length:=by first | omega | (rw [hx];decide)
  rw [List.getElem?_eq_getElem i2] at e2
  obtain ⟨gr,r1,r2,r3,r4⟩:=op_grd _ _ _ e2
  have e3:DataW.trod enc Tryz.prog w base spare held n' 33 [z25_,z26_,z27_,z28_]=xs[3]?:=by
   have:=hf 3 _ rfl
   first | exact this | (rw [show Tryz.prog.cellsOf 33 = 4 by kernel_rfl] at this;exact this)
  have i3:3<xs.length:=by first | omega | (rw [hx];decide)
  rw [List.getElem?_eq_getElem i3] at e3
  obtain ⟨ac,s1,s2,s3,s4,s5⟩:=op_acc _ _ _ e3
  have e4:DataW.trod enc Tryz.prog w base spare held n' 2 [z29_]=xs[4]?:=by
   have:=hf 4 _ rfl
   first | exact this | (rw [show Tryz.prog.cellsOf 2 = 1 by kernel_rfl] at this;exact this)
  have i4:4<xs.length:=by first | omega | (rw [hx];decide)
  rw [List.getElem?_eq_getElem i4] at e4
  obtain ⟨lv,h0,w0⟩:=el_int (k:=.i64) Tryz.underlying2 _ _ _ e4
  obtain rfl:z29_=vI lv:=by injection h0
  have e5:DataW.trod enc Tryz.prog w base spare held n' 2 [z30_]=xs[5]?:=by
   have:=hf 5 _ rfl
   first | exact this | (rw [show Tryz.prog.cellsOf 2 = 1 by kernel_rfl] at this;exact this)
  have i5:5<xs.length:=by first | omega | (rw [hx];decide)
  rw [List.getElem?_eq_getElem i5] at e5
  obtain ⟨cas,h1,w1⟩:=el_int (k:=.i64) Tryz.underlying2 _ _ _ e5
  obtain rfl:z30_=vI cas:=by injection h1
  have e6:DataW.trod enc Tryz.prog w base spare held n' 2 [z31_]=xs[6]?:=by
   have:=hf 6 _ rfl
   first | exact this | (rw [show Tryz.prog.cellsOf 2 = 1 by kernel_rfl] at this;exact this)
  have i6:6<xs.length:=by first | omega | (rw [hx];decide)
  rw [List.getElem?_eq_getElem i6] at e6
  obtain ⟨mch,h2,w2⟩:=el_int (k:=.i64) Tryz.underlying2 _ _ _ e6
  obtain rfl:z31_=vI mch:=by injection h2
  have e7:DataW.trod enc Tryz.prog w base spare held n' 2 [z32_]=xs[7]?:=by
   have:=hf 7 _ rfl
   first | exact this | (rw [show Tryz.prog.cellsOf 2 = 1 by kernel_rfl] at this;exact this)
  have i7:7<xs.length:=by first | omega | (rw [hx];decide)
  rw [List.getElem?_eq_getElem i7] at e7
  obtain ⟨acc,h3,w3⟩:=el_int (k:=.i64) Tryz.underlying2 _ _ _ e7
  obtain rfl:z32_=vI acc:=by injection h3
  have e8:DataW.trod enc Tryz.prog w base spare held n' 2 [z33_]=xs[8]?:=by
   have:=hf 8 _ rfl
   first | exact this | (rw [show Tryz.prog.cellsOf 2 = 1 by kernel_rfl] at this;exact this)
  have i8:8<xs.length:=by first | omega | (rw [hx];decide)
  rw [List.getElem?_eq_getElem i8] at e8
  obtain ⟨dec,h4,w4⟩:=el_int (k:=.i64) Tryz.underlying2 _ _ _ e8
  obtain rfl:z33_=vI dec:=by injection h4
  have e9:DataW.trod enc Tryz.prog w base spare held n' 2 [z34_]=xs[9]?:=by
   have:=hf 9 _ rfl
   first | exact this | (rw [show Tryz.prog.cellsOf 2 = 1 by kernel_rfl] at this;exact this)
  have i9:9<xs.length:=by first | omega | (rw [hx];decide)
  rw [List.getElem?_eq_getElem i9] at e9
  obtain ⟨la,h5,w5⟩:=el_int (k:=.i64) Tryz.underlying2 _ _ _ e9
  obtain rfl:z34_=vI la:=by injection h5
  have e10:DataW.trod enc Tryz.prog w base spare held n' 2 [z35_]=xs[10]?:=by
   have:=hf 10 _ rfl
   first | exact this | (rw [show Tryz.prog.cellsOf 2 = 1 by kernel_rfl] at this;exact this)
  have i10:10<xs.length:=by first | omega | (rw [hx];decide)
  rw [List.getElem?_eq_getElem i10] at e10
  obtain ⟨ls,h6,w6⟩:=el_int (k:=.i64) Tryz.underlying2 _ _ _ e10
  obtain rfl:z35_=vI ls:=by injection h6
  refine ⟨⟨⟨A,m,c⟩,no,pf,gr,ac,lv,cas,mch,acc,dec,la,ls⟩,?_,⟨n3,q2,r2⟩,⟨n1,q3,r3,s3,s2⟩,⟨n4,n2,⟨s4,s5⟩,r4.2,wf_i64_bd w0,wf_i64_bd w1,wf_i64_bd w2,wf_i64_bd w3,wf_i64_bd w4,wf_i64_bd w5,wf_i64_bd w6⟩⟩
  show _=_ :: (pf.cells ++ (gr.cells ++ (ac.cells ++ _)))
  rw [← q1,← r1,← s1]
  rfl
theorem open_su {H:Type} {enc:TypeId × Value→H} {w:World} {base:Nat} {spare:Nat→Bool} {held:Bool} {r:Reach} {b0:Nat} {v:Value} {d:DataW H} {p:List MemPlace}
  (hv:Value.okWide Tryz.prog w r b0 35 v) (h:DataW.Trod enc Tryz.prog w base spare held 35 v d p):∃ s:Stp,v=.agg s.cells.toArray∧s.lies w∧s.ok∧StpW s:=by
 obtain ⟨cs,n,rfl,hh⟩:=open_agg_list Tryz.underlying35 hv h;obtain ⟨s,rfl,h1,h2,h3⟩:=op_su _ _ _ hh
 exact ⟨s,rfl,h1,h2,h3⟩
end Go.Proofs.YtheepmnhpclimaaGreat

