/- The tables of the library, as the rows say that they lie: what the layer wants of them. By an AI agent; nothing here is trusted. -/
import Derived.Test.YtpaklfjlbocfcaaGreatDoorRows
import Derived.Test.YtpaklfjlbocfcaaGreatDoorLayC
import Derived.Test.YtpaklfjlbocfcaaGreatDoorProg
import Derived.Test.YtpaklfjlbocfcaaGreatDoorLayD
import Derived.Test.YtpaklfjlbocfcaaGreatDoorChecked
import Derived.Test.YtpaklfjlbocfcaaGreatDoorKode
import Derived.Test.YtpaklfjlbocfcaaGreatDoorLayA
import Derived.ProofKit
import Derived.LaidMore
import Derived.OpenShut
import Derived.Stop.Joined
import Derived.LaidLaws
import Derived.Lay
import Derived.Shelf.LaysM
import Derived.Shelf.LaysC
import Derived.Shelf.Strconv.Itoa3
import Derived.Lib.LaidTab
import Derived.Shelf.Strconv.Itoa2
import Derived.Lib.Walk
import Derived.Lib.ItoaMem
import Derived.WalkKit
import Derived.BigCall
import Derived.BigGuard
import Derived.Shelf.Spec.BitsCarry
import Derived.Lib.Mul64
set_option linter.defProp false
set_option linter.unusedSimpArgs false
set_option linter.unusedVariables false
namespace Go.Proofs.YtpaklfjlbocfcaaGreatDoor
open Go.ChangeShapes Go.WideShapes Go.ChangeAt Go.RowKit
open Go.Av

def laidP:List (String × DataW Unit):=[("math/bits.deBruijn32tab",Rows.laid_math_bits_deBruijn32tab),("math/bits.deBruijn64tab",Rows.laid_math_bits_deBruijn64tab),("internal/strconv.uint64pow10",Rows.laid_internal_strconv_uint64pow10),("unicode/utf8.acceptRanges",Rows.laid_unicode_utf8_acceptRanges),("strconv.ErrRange",Rows.laid_strconv_ErrRange),("strconv.ErrSyntax",Rows.laid_strconv_ErrSyntax),("unicode/utf8.first",Rows.laid_unicode_utf8_first)]

theorem ownKn:ownKnob Tryz.prog.godebug=none:=by kernel_rfl
set_option maxRecDepth 100000 in
theorem door_met (os:Os) (args:Array Value):laidMetH Tryz.prog laidP ((World.laidAll Tryz.prog os laidP).forCall (fun _ _=>0) ⟨#[],args,[]⟩).memory:=by
 rw [MakeChecks.laidMetH_plain _ _ _ (by kernel_rfl)]
 exact laidMet_laidAll _ (by kernel_rfl) (by kernel_rfl)

theorem tab_cells {W:World} {g:Nat} {name:String} {t e:TypeId} {n f:Nat} {k:IntKind} {cs:Array Value} {ns:List Int} {p:List MemPlace} {H:Type} {enc:TypeId × Value→H} {sp:Nat→Bool} {held:Bool} (hg:Tryz.prog.globalNamed name=some g)
  (hv:W.var? Tryz.prog name=some cs) (ht:Tryz.prog.underlying t=some (.array n e)) (he:Tryz.prog.underlying e=some (.int k)) (hc:Tryz.prog.cellsOf e=1) (hct:Tryz.prog.cellsOf t=n) (hn:ns.length=n) (hpos:0<n)
  (hd:DataW.trod enc Tryz.prog W 0 sp held f t cs.toList=some (.agg (ns.map fun m=>.lit (.int k m)),p)) :
  g<W.heap.size∧∃ cur ty fr,W.heap[g]?=some (.cells cur ty fr)∧cur.size=ns.length∧∀ (j:Nat) (m:Int),ns[j]?=some m→cur[j]?=some (.int k m):=by
 obtain ⟨xs,m1,rfl,hx1,hcl,hlen,hel⟩:=DataW.trod_array ht hd
 simp only [Prod.mk.injEq,DataW.agg.injEq] at hx1
 have key:∀ (j:Nat) (m:Int),ns[j]?=some m→cs[j]?=some (.int k m):=by
  intro j m hj
  have hjn:j<n:=by rw [← hn];exact (List.getElem?_eq_some_iff.1 hj).1
  have h1:=hel j hjn
  rw [hc,Nat.mul_one] at h1
  obtain ⟨x,hx⟩:∃ x,xs[j]?=some x:=⟨xs[j]'(by omega),List.getElem?_eq_getElem (by omega)⟩
  rw [hx] at h1
  obtain ⟨q,e1,e2,_⟩:=DataW.trod_int he h1
  have h2:(xs.map (·.1))[j]?=some (.lit (.int k q)):=by rw [List.getElem?_map,hx,e2];rfl
  rw [← hx1.1,List.getElem?_map,hj] at h2
  simp only [Option.map_some,Option.some.injEq,DataW.lit.injEq,Lit.int.injEq,true_and] at h2
  subst h2
  have h3:((cs.toList.drop j).take 1)[0]?=some (.int k m):=by rw [e1];rfl
  rw [List.getElem?_take,if_pos (by omega),List.getElem?_drop] at h3
  simpa using h3
 have h0:∃ m,ns[0]?=some m:=⟨ns[0]'(by omega),List.getElem?_eq_getElem (by omega)⟩
 obtain ⟨m0,hm0⟩:=h0
 have hcell:=World.var?_cell hg hv
 have hb:∃ cur ty fr,W.heap[g]?=some (.cells cur ty fr):=by
  have:=(hcell 0).trans (key 0 m0 hm0)
  unfold World.cell? at this
  split at this
  ·rename_i cur ty fr hb;exact ⟨cur,ty,fr,hb⟩
  ·cases this
 obtain ⟨cur,ty,fr,hb⟩:=hb
 refine ⟨(Array.getElem?_eq_some_iff.1 hb).1,cur,ty,fr,hb,?_,fun j m hj=>?_⟩
 ·have h1:cs.size=n:=by rw [← Array.length_toList,hcl,hct]
  have hce:∀ i,cur[i]?=cs[i]?:=fun i=>by
   have:=hcell i
   unfold World.cell? at this
   rw [hb] at this
   simpa using this
  have h2:cs.size=cur.size:=by
   have e1:=hce cs.size
   have e2:=hce cur.size
   rw [Array.getElem?_eq_none (Nat.le_refl _)] at e2
   rw [Array.getElem?_eq_none (xs:=cs) (Nat.le_refl _),Array.getElem?_eq_none_iff] at e1
   have:=Array.getElem?_eq_none_iff.1 e2.symm
   omega
  omega
 have:=(hcell j).trans (key j m hj)
 unfold World.cell? at this
 rw [hb] at this
 simpa using this

theorem err_cells {W:World} {g:Nat} {name nm:String} {t:TypeId} {f:Nat} {ms:Array (String × TypeId)} {cs:Array Value} {p:List MemPlace} {H:Type} {enc:TypeId × Value→H} {sp:Nat→Bool} {d:DataW H} (hg:Tryz.prog.globalNamed name=some g)
  (hv:W.var? Tryz.prog name=some cs) (ht:Tryz.prog.underlying t=some (.interface ms)) (hd:DataW.trod enc Tryz.prog W 0 sp false f t cs.toList=some (.iface nm d,p)) :
  g<W.heap.size∧∃ cur ty fr te pe,W.heap[g]?=some (.cells cur ty fr)∧cur[0]?=some (.iface te pe):=by
 obtain ⟨f1,u,v,hcs,_,_⟩:=iface_of_trod ht hd
 have hc:cs[0]?=some (.iface u v):=by
  rw [← Array.getElem?_toList,hcs];rfl
 have:=(World.var?_cell hg hv 0).trans hc
 unfold World.cell? at this
 split at this
 ·rename_i cur ty fr hb
  exact ⟨(Array.getElem?_eq_some_iff.1 hb).1,cur,ty,fr,u,v,hb,by simpa using this⟩
 ·cases this

theorem gES:Tryz.prog.globalNamed "strconv.ErrSyntax"=some 5:=by kernel_rfl
theorem gER:Tryz.prog.globalNamed "strconv.ErrRange"=some 6:=by kernel_rfl
theorem g32:Tryz.prog.globalNamed "math/bits.deBruijn32tab"=some 0:=by kernel_rfl
theorem g64:Tryz.prog.globalNamed "math/bits.deBruijn64tab"=some 1:=by kernel_rfl
theorem g10:Tryz.prog.globalNamed "internal/strconv.uint64pow10"=some 9:=by kernel_rfl

theorem of_laid {W:World} (h:laidMetH Tryz.prog laidP W):GOk (fun b=>b<W.heap.size) W:=by
 rw [MakeChecks.laidMetH_plain _ _ _ (by kernel_rfl)] at h
 obtain ⟨ps,⟨n0,t0,cs0,f0,p0,q0,hn0,ht0,hv0,hd0,⟨n1,t1,cs1,f1,p1,q1,hn1,ht1,hv1,hd1,⟨n2,t2,cs2,f2,p2,q2,hn2,ht2,hv2,hd2,⟨n3,t3,cs3,f3,p3,q3,hn3,ht3,hv3,hd3,⟨n4,t4,cs4,f4,p4,q4,hn4,ht4,hv4,hd4,⟨n5,t5,cs5,f5,p5,q5,hn5,ht5,hv5,hd5,_⟩,_⟩,_⟩,_⟩,_⟩,_⟩,_⟩:=h
 obtain rfl:=Option.some.inj (g32.symm.trans hn0)
 obtain rfl:=Option.some.inj (g64.symm.trans hn1)
 obtain rfl:=Option.some.inj (g10.symm.trans hn2)
 obtain rfl:=Option.some.inj ((show (Tryz.prog.globals[0]?).map (·.type)=some 248 by kernel_rfl).symm.trans ht0)
 obtain rfl:=Option.some.inj ((show (Tryz.prog.globals[1]?).map (·.type)=some 249 by kernel_rfl).symm.trans ht1)
 obtain rfl:=Option.some.inj ((show (Tryz.prog.globals[9]?).map (·.type)=some 282 by kernel_rfl).symm.trans ht2)
 obtain rfl:=Option.some.inj (gER.symm.trans hn4)
 obtain rfl:=Option.some.inj (gES.symm.trans hn5)
 obtain rfl:=Option.some.inj ((show (Tryz.prog.globals[6]?).map (·.type)=some 212 by kernel_rfl).symm.trans ht4)
 obtain rfl:=Option.some.inj ((show (Tryz.prog.globals[5]?).map (·.type)=some 212 by kernel_rfl).symm.trans ht5)
 have e4:=err_cells hn4 hv4 Tryz.underlying212 hd4
 have e5:=err_cells hn5 hv5 Tryz.underlying212 hd5
 have c0:=tab_cells (ns:=[0,1,28,2,29,14,24,3,30,22,20,15,25,17,4,8,31,27,13,23,21,19,16,7,26,12,18,6,11,5,10,9]) hn0 hv0 Tryz.underlying248 Tryz.underlying5 (by kernel_rfl) (by kernel_rfl) rfl (by decide) hd0
 have c1:=tab_cells (ns:=[0,1,56,2,57,49,28,3,61,58,42,50,38,29,17,4,62,47,59,36,45,43,51,22,53,39,33,30,24,18,12,5,63,55,48,27,60,41,37,16,46,35,44,21,52,32,23,11,54,26,40,15,34,20,31,10,25,14,19,9,13,8,7,6]) hn1 hv1 Tryz.underlying249 Tryz.underlying5 (by kernel_rfl) (by kernel_rfl) rfl (by decide) hd1
 have c2:=tab_cells (ns:=[1,10,100,1000,10000,100000,1000000,10000000,100000000,1000000000,10000000000,100000000000,1000000000000,10000000000000,100000000000000,1000000000000000,10000000000000000,100000000000000000,1000000000000000000,10000000000000000000]) hn2 hv2 Tryz.underlying282 Tryz.underlying186 (by kernel_rfl) (by kernel_rfl) rfl (by decide) hd2
 refine ⟨fun p hp=>?_,fun g hg=>?_⟩
 rotate_left
 ·simp only [gErr,List.nil_append,List.mem_append,List.mem_singleton] at hg
  rcases hg with rfl | rfl
  ·exact e5
  ·exact e4
 simp only [gTab,List.nil_append,List.mem_append,List.mem_singleton] at hp
 rcases hp with (rfl | rfl) | rfl
 ·exact c1
 ·exact c0
 ·exact c2
end Go.Proofs.YtpaklfjlbocfcaaGreatDoor

/- The library's functions as the shelf knows them: this program has them. Printed by a program. By an AI agent;nothing here is trusted. -/
namespace Go.Proofs.YtpaklfjlbocfcaaGreatDoor
def shRen:Go.Shelf.Ren:=⟨fun x=>match x with | 129=>223 | 171=>145 | 172=>149 | 205=>230 | 243=>191 | 244=>194 | 245=>195 | 246=>211 | 247=>214 | 279=>215 | 280=>216 | 281=>217 | 282=>218 | 283=>224 | 284=>225 | 285=>226 | 286=>227 | 287=>228 | 316=>229 | 317=>235 | 318=>236 | 319=>237 | 320=>127 | 321=>238 | 322=>239 | 337=>176 | 338=>177 | n=>n,fun x=>match x with | 0=>0 | 2=>2 | 3=>3 | 4=>4 | 5=>5 | 9=>9 | 20=>20 | 21=>21 | 37=>207 | 46=>184 | 51=>230 | 53=>186 | 75=>212 | 76=>213 | 80=>198 | 85=>259 | 127=>242 | 143=>285 | 145=>287 | 167=>258 | 168=>261 | 171=>266 | 173=>268 | 175=>270 | 210=>274 | 212=>282 | 213=>283 | 232=>248 | 233=>249 | n=>n,fun x=>match x with | 15=>5 | 16=>6 | 17=>9 | 18=>0 | 19=>1 | n=>n⟩
set_option maxRecDepth 100000 in
theorem sh_f129:Tryz.prog.funcs[shRen.f 129]?=some (Go.Proofs.Body.n129 shRen):=by kernel_rfl
set_option maxRecDepth 100000 in
theorem sh_f171:Tryz.prog.funcs[shRen.f 171]?=some (Go.Proofs.Body.n171 shRen):=by kernel_rfl
set_option maxRecDepth 100000 in
theorem sh_f243:Tryz.prog.funcs[shRen.f 243]?=some (Go.Proofs.Body.n243 shRen):=by kernel_rfl
set_option maxRecDepth 100000 in
theorem sh_f246:Tryz.prog.funcs[shRen.f 246]?=some (Go.Proofs.Body.n246 shRen):=by kernel_rfl
set_option maxRecDepth 100000 in
theorem sh_f283:Tryz.prog.funcs[shRen.f 283]?=some (Go.Proofs.Body.n283 shRen):=by kernel_rfl
set_option maxRecDepth 100000 in
theorem sh_f284:Tryz.prog.funcs[shRen.f 284]?=some (Go.Proofs.Body.n284 shRen):=by kernel_rfl
set_option maxRecDepth 100000 in
theorem sh_f285:Tryz.prog.funcs[shRen.f 285]?=some (Go.Proofs.Body.n285 shRen):=by kernel_rfl
set_option maxRecDepth 100000 in
theorem sh_f286:Tryz.prog.funcs[shRen.f 286]?=some (Go.Proofs.Body.n286 shRen):=by kernel_rfl
set_option maxRecDepth 100000 in
theorem sh_f317:Tryz.prog.funcs[shRen.f 317]?=some (Go.Proofs.Body.n317 shRen):=by kernel_rfl
set_option maxRecDepth 100000 in
theorem sh_f318:Tryz.prog.funcs[shRen.f 318]?=some (Go.Proofs.Body.n318 shRen):=by kernel_rfl
set_option maxRecDepth 100000 in
theorem sh_f319:Tryz.prog.funcs[shRen.f 319]?=some (Go.Proofs.Body.n319 shRen):=by kernel_rfl
set_option maxRecDepth 100000 in
theorem sh_f320:Tryz.prog.funcs[shRen.f 320]?=some (Go.Proofs.Body.n320 shRen):=by kernel_rfl
set_option maxRecDepth 100000 in
theorem sh_f337:Tryz.prog.funcs[shRen.f 337]?=some (Go.Proofs.Body.n337 shRen):=by kernel_rfl
set_option maxRecDepth 100000 in
theorem sh_f338:Tryz.prog.funcs[shRen.f 338]?=some (Go.Proofs.Body.n338 shRen):=by kernel_rfl
set_option maxRecDepth 100000 in
theorem sh_f172:Tryz.prog.funcs[shRen.f 172]?=some (Go.Proofs.Body.n172 shRen):=by kernel_rfl
set_option maxRecDepth 100000 in
theorem sh_f205:Tryz.prog.funcs[shRen.f 205]?=some (Go.Proofs.Body.n205 shRen):=by kernel_rfl
set_option maxRecDepth 100000 in
theorem sh_f244:Tryz.prog.funcs[shRen.f 244]?=some (Go.Proofs.Body.n244 shRen):=by kernel_rfl
set_option maxRecDepth 100000 in
theorem sh_f245:Tryz.prog.funcs[shRen.f 245]?=some (Go.Proofs.Body.n245 shRen):=by kernel_rfl
set_option maxRecDepth 100000 in
theorem sh_f247:Tryz.prog.funcs[shRen.f 247]?=some (Go.Proofs.Body.n247 shRen):=by kernel_rfl
set_option maxRecDepth 100000 in
theorem sh_f279:Tryz.prog.funcs[shRen.f 279]?=some (Go.Proofs.Body.n279 shRen):=by kernel_rfl
set_option maxRecDepth 100000 in
theorem sh_f280:Tryz.prog.funcs[shRen.f 280]?=some (Go.Proofs.Body.n280 shRen):=by kernel_rfl
set_option maxRecDepth 100000 in
theorem sh_f281:Tryz.prog.funcs[shRen.f 281]?=some (Go.Proofs.Body.n281 shRen):=by kernel_rfl
set_option maxRecDepth 100000 in
theorem sh_f282:Tryz.prog.funcs[shRen.f 282]?=some (Go.Proofs.Body.n282 shRen):=by kernel_rfl
set_option maxRecDepth 100000 in
theorem sh_f287:Tryz.prog.funcs[shRen.f 287]?=some (Go.Proofs.Body.n287 shRen):=by kernel_rfl
set_option maxRecDepth 100000 in
theorem sh_f316:Tryz.prog.funcs[shRen.f 316]?=some (Go.Proofs.Body.n316 shRen):=by kernel_rfl
set_option maxRecDepth 100000 in
theorem sh_f321:Tryz.prog.funcs[shRen.f 321]?=some (Go.Proofs.Body.n321 shRen):=by kernel_rfl
set_option maxRecDepth 100000 in
theorem sh_f322:Tryz.prog.funcs[shRen.f 322]?=some (Go.Proofs.Body.n322 shRen):=by kernel_rfl
theorem sh_n171:Go.Proofs.LaysM.n171 Tryz.prog shRen :=
 {mixed:=by kernel_rfl,
  f129:=sh_f129,
  f171:=sh_f171,
  f243:=sh_f243,
  f246:=sh_f246,
  f283:=sh_f283,
  f284:=sh_f284,
  f285:=sh_f285,
  f286:=sh_f286,
  f317:=sh_f317,
  f318:=sh_f318,
  f319:=sh_f319,
  f320:=sh_f320,
  f337:=sh_f337,
  f338:=sh_f338,
  t0:=Tryz.underlying0,
  a0:=Tryz.isAgg0,
  z0:=Tryz.sizeOf0,
  v0:=Tryz.zeroValue0,
  t2:=Tryz.underlying2,
  a2:=Tryz.isAgg2,
  z2:=Tryz.sizeOf2,
  v2:=Tryz.zeroValue2,
  t3:=Tryz.underlying3,
  a3:=Tryz.isAgg3,
  z3:=Tryz.sizeOf3,
  v3:=Tryz.zeroValue3,
  t4:=Tryz.underlying4,
  a4:=Tryz.isAgg4,
  z4:=Tryz.sizeOf4,
  v4:=Tryz.zeroValue4,
  t5:=Tryz.underlying5,
  a5:=Tryz.isAgg5,
  z5:=Tryz.sizeOf5,
  v5:=Tryz.zeroValue5,
  t9:=Tryz.underlying9,
  a9:=Tryz.isAgg9,
  z9:=Tryz.sizeOf9,
  v9:=Tryz.zeroValue9,
  t20:=Tryz.underlying20,
  a20:=Tryz.isAgg20,
  z20:=Tryz.sizeOf20,
  v20:=Tryz.zeroValue20,
  t37:=Tryz.underlying207,
  a37:=Tryz.isAgg207,
  z37:=Tryz.sizeOf207,
  v37:=Tryz.zeroValue207,
  t46:=Tryz.underlying184,
  a46:=Tryz.isAgg184,
  z46:=Tryz.sizeOf184,
  v46:=Tryz.zeroValue184,
  t51:=Tryz.underlying230,
  a51:=Tryz.isAgg230,
  z51:=Tryz.sizeOf230,
  v51:=Tryz.zeroValue230,
  t53:=Tryz.underlying186,
  a53:=Tryz.isAgg186,
  z53:=Tryz.sizeOf186,
  v53:=Tryz.zeroValue186,
  t171:=Tryz.underlying266,
  a171:=Tryz.isAgg266,
  z171:=Tryz.sizeOf266,
  v171:=Tryz.zeroValue266,
  t173:=Tryz.underlying268,
  a173:=Tryz.isAgg268,
  z173:=Tryz.sizeOf268,
  v173:=Tryz.zeroValue268,
  t212:=Tryz.underlying282,
  a212:=Tryz.isAgg282,
  z212:=Tryz.sizeOf282,
  v212:=Tryz.zeroValue282,
  t213:=Tryz.underlying283,
  a213:=Tryz.isAgg283,
  z213:=Tryz.sizeOf283,
  t232:=Tryz.underlying248,
  a232:=Tryz.isAgg248,
  z232:=Tryz.sizeOf248,
  v232:=Tryz.zeroValue248,
  t233:=Tryz.underlying249,
  a233:=Tryz.isAgg249,
  z233:=Tryz.sizeOf249,
  v233:=Tryz.zeroValue249,
  g17:=by kernel_rfl,
  g18:=by kernel_rfl,
  g19:=by kernel_rfl,
  i0:=by kernel_rfl,
  i2:=by kernel_rfl,
  i3:=by kernel_rfl,
  i4:=by kernel_rfl,
  i5:=by kernel_rfl,
  i9:=by kernel_rfl,
  i20:=by kernel_rfl,
  i37:=by kernel_rfl,
  i46:=by kernel_rfl,
  i51:=by kernel_rfl,
  i53:=by kernel_rfl,
  i171:=by kernel_rfl,
  i173:=by kernel_rfl,
  i212:=by kernel_rfl,
  i232:=by kernel_rfl,
  i233:=by kernel_rfl,
  m17:=by kernel_rfl,
  m18:=by kernel_rfl,
  m19:=by kernel_rfl }
theorem sh_n283:Go.Proofs.LaysM.n283 Tryz.prog shRen :=
 {mixed:=by kernel_rfl,
  f283:=sh_f283,
  t3:=Tryz.underlying3,
  a3:=Tryz.isAgg3,
  z3:=Tryz.sizeOf3,
  v3:=Tryz.zeroValue3,
  t4:=Tryz.underlying4,
  a4:=Tryz.isAgg4,
  z4:=Tryz.sizeOf4,
  v4:=Tryz.zeroValue4,
  t9:=Tryz.underlying9,
  a9:=Tryz.isAgg9,
  z9:=Tryz.sizeOf9,
  v9:=Tryz.zeroValue9,
  i3:=by kernel_rfl,
  i4:=by kernel_rfl,
  i9:=by kernel_rfl }
theorem sh_n284:Go.Proofs.LaysM.n284 Tryz.prog shRen :=
 {mixed:=by kernel_rfl,
  f129:=sh_f129,
  f284:=sh_f284,
  f317:=sh_f317,
  f318:=sh_f318,
  t0:=Tryz.underlying0,
  a0:=Tryz.isAgg0,
  z0:=Tryz.sizeOf0,
  v0:=Tryz.zeroValue0,
  t3:=Tryz.underlying3,
  a3:=Tryz.isAgg3,
  z3:=Tryz.sizeOf3,
  v3:=Tryz.zeroValue3,
  t4:=Tryz.underlying4,
  a4:=Tryz.isAgg4,
  z4:=Tryz.sizeOf4,
  v4:=Tryz.zeroValue4,
  t5:=Tryz.underlying5,
  a5:=Tryz.isAgg5,
  z5:=Tryz.sizeOf5,
  v5:=Tryz.zeroValue5,
  t9:=Tryz.underlying9,
  a9:=Tryz.isAgg9,
  z9:=Tryz.sizeOf9,
  v9:=Tryz.zeroValue9,
  t46:=Tryz.underlying184,
  a46:=Tryz.isAgg184,
  z46:=Tryz.sizeOf184,
  v46:=Tryz.zeroValue184,
  t53:=Tryz.underlying186,
  a53:=Tryz.isAgg186,
  z53:=Tryz.sizeOf186,
  v53:=Tryz.zeroValue186,
  t212:=Tryz.underlying282,
  a212:=Tryz.isAgg282,
  z212:=Tryz.sizeOf282,
  v212:=Tryz.zeroValue282,
  g17:=by kernel_rfl,
  i0:=by kernel_rfl,
  i3:=by kernel_rfl,
  i4:=by kernel_rfl,
  i5:=by kernel_rfl,
  i9:=by kernel_rfl,
  i46:=by kernel_rfl,
  i53:=by kernel_rfl,
  i212:=by kernel_rfl,
  m17:=by kernel_rfl }
theorem sh_n285:Go.Proofs.LaysM.n285 Tryz.prog shRen :=
 {mixed:=by kernel_rfl,
  f285:=sh_f285,
  t0:=Tryz.underlying0,
  a0:=Tryz.isAgg0,
  z0:=Tryz.sizeOf0,
  v0:=Tryz.zeroValue0,
  t3:=Tryz.underlying3,
  a3:=Tryz.isAgg3,
  z3:=Tryz.sizeOf3,
  v3:=Tryz.zeroValue3,
  t4:=Tryz.underlying4,
  a4:=Tryz.isAgg4,
  z4:=Tryz.sizeOf4,
  v4:=Tryz.zeroValue4,
  t5:=Tryz.underlying5,
  a5:=Tryz.isAgg5,
  z5:=Tryz.sizeOf5,
  v5:=Tryz.zeroValue5,
  t9:=Tryz.underlying9,
  a9:=Tryz.isAgg9,
  z9:=Tryz.sizeOf9,
  v9:=Tryz.zeroValue9,
  t37:=Tryz.underlying207,
  a37:=Tryz.isAgg207,
  z37:=Tryz.sizeOf207,
  v37:=Tryz.zeroValue207,
  t51:=Tryz.underlying230,
  a51:=Tryz.isAgg230,
  z51:=Tryz.sizeOf230,
  v51:=Tryz.zeroValue230,
  t53:=Tryz.underlying186,
  a53:=Tryz.isAgg186,
  z53:=Tryz.sizeOf186,
  v53:=Tryz.zeroValue186,
  i0:=by kernel_rfl,
  i3:=by kernel_rfl,
  i4:=by kernel_rfl,
  i5:=by kernel_rfl,
  i9:=by kernel_rfl,
  i37:=by kernel_rfl,
  i51:=by kernel_rfl,
  i53:=by kernel_rfl }
theorem sh_n172:Go.Proofs.LaysC.n172 Tryz.prog shRen :=
 {mixed:=by kernel_rfl,
  f129:=sh_f129,
  f171:=sh_f171,
  f172:=sh_f172,
  f205:=sh_f205,
  f243:=sh_f243,
  f244:=sh_f244,
  f245:=sh_f245,
  f246:=sh_f246,
  f247:=sh_f247,
  f279:=sh_f279,
  f280:=sh_f280,
  f281:=sh_f281,
  f282:=sh_f282,
  f283:=sh_f283,
  f284:=sh_f284,
  f285:=sh_f285,
  f286:=sh_f286,
  f287:=sh_f287,
  f316:=sh_f316,
  f317:=sh_f317,
  f318:=sh_f318,
  f319:=sh_f319,
  f320:=sh_f320,
  f321:=sh_f321,
  f322:=sh_f322,
  f337:=sh_f337,
  f338:=sh_f338,
  t0:=Tryz.underlying0,
  a0:=Tryz.isAgg0,
  z0:=Tryz.sizeOf0,
  v0:=Tryz.zeroValue0,
  t2:=Tryz.underlying2,
  a2:=Tryz.isAgg2,
  z2:=Tryz.sizeOf2,
  v2:=Tryz.zeroValue2,
  t3:=Tryz.underlying3,
  a3:=Tryz.isAgg3,
  z3:=Tryz.sizeOf3,
  v3:=Tryz.zeroValue3,
  t4:=Tryz.underlying4,
  a4:=Tryz.isAgg4,
  z4:=Tryz.sizeOf4,
  v4:=Tryz.zeroValue4,
  t5:=Tryz.underlying5,
  a5:=Tryz.isAgg5,
  z5:=Tryz.sizeOf5,
  v5:=Tryz.zeroValue5,
  t9:=Tryz.underlying9,
  a9:=Tryz.isAgg9,
  z9:=Tryz.sizeOf9,
  v9:=Tryz.zeroValue9,
  t20:=Tryz.underlying20,
  a20:=Tryz.isAgg20,
  z20:=Tryz.sizeOf20,
  v20:=Tryz.zeroValue20,
  t21:=Tryz.underlying21,
  a21:=Tryz.isAgg21,
  z21:=Tryz.sizeOf21,
  v21:=Tryz.zeroValue21,
  t37:=Tryz.underlying207,
  a37:=Tryz.isAgg207,
  z37:=Tryz.sizeOf207,
  v37:=Tryz.zeroValue207,
  t46:=Tryz.underlying184,
  a46:=Tryz.isAgg184,
  z46:=Tryz.sizeOf184,
  v46:=Tryz.zeroValue184,
  t51:=Tryz.underlying230,
  a51:=Tryz.isAgg230,
  z51:=Tryz.sizeOf230,
  v51:=Tryz.zeroValue230,
  t53:=Tryz.underlying186,
  a53:=Tryz.isAgg186,
  z53:=Tryz.sizeOf186,
  v53:=Tryz.zeroValue186,
  t75:=Tryz.underlying212,
  a75:=Tryz.isAgg212,
  z75:=Tryz.sizeOf212,
  v75:=Tryz.zeroValue212,
  t76:=Tryz.underlying213,
  a76:=Tryz.isAgg213,
  z76:=Tryz.sizeOf213,
  v76:=Tryz.zeroValue213,
  t85:=Tryz.underlying259,
  a85:=Tryz.isAgg259,
  z85:=Tryz.sizeOf259,
  v85:=Tryz.zeroValue259,
  t127:=Tryz.underlying242,
  a127:=Tryz.isAgg242,
  z127:=Tryz.sizeOf242,
  v127:=Tryz.zeroValue242,
  t143:=Tryz.underlying285,
  a143:=Tryz.isAgg285,
  z143:=Tryz.sizeOf285,
  v143:=Tryz.zeroValue285,
  t145:=Tryz.underlying287,
  a145:=Tryz.isAgg287,
  z145:=Tryz.sizeOf287,
  v145:=Tryz.zeroValue287,
  t167:=Tryz.underlying258,
  a167:=Tryz.isAgg258,
  z167:=Tryz.sizeOf258,
  v167:=Tryz.zeroValue258,
  t168:=Tryz.underlying261,
  a168:=Tryz.isAgg261,
  z168:=Tryz.sizeOf261,
  v168:=Tryz.zeroValue261,
  t171:=Tryz.underlying266,
  a171:=Tryz.isAgg266,
  z171:=Tryz.sizeOf266,
  v171:=Tryz.zeroValue266,
  t173:=Tryz.underlying268,
  a173:=Tryz.isAgg268,
  z173:=Tryz.sizeOf268,
  v173:=Tryz.zeroValue268,
  t175:=Tryz.underlying270,
  a175:=Tryz.isAgg270,
  z175:=Tryz.sizeOf270,
  v175:=Tryz.zeroValue270,
  t210:=Tryz.underlying274,
  a210:=Tryz.isAgg274,
  z210:=Tryz.sizeOf274,
  v210:=Tryz.zeroValue274,
  t212:=Tryz.underlying282,
  a212:=Tryz.isAgg282,
  z212:=Tryz.sizeOf282,
  v212:=Tryz.zeroValue282,
  t213:=Tryz.underlying283,
  a213:=Tryz.isAgg283,
  z213:=Tryz.sizeOf283,
  t232:=Tryz.underlying248,
  a232:=Tryz.isAgg248,
  z232:=Tryz.sizeOf248,
  v232:=Tryz.zeroValue248,
  t233:=Tryz.underlying249,
  a233:=Tryz.isAgg249,
  z233:=Tryz.sizeOf249,
  v233:=Tryz.zeroValue249,
  g15:=by kernel_rfl,
  g16:=by kernel_rfl,
  g17:=by kernel_rfl,
  g18:=by kernel_rfl,
  g19:=by kernel_rfl,
  t80:=Tryz.underlying198,
  a80:=Tryz.isAgg198,
  z80:=Tryz.sizeOf198,
  v80:=Tryz.zeroValue198,
  i0:=by kernel_rfl,
  i2:=by kernel_rfl,
  i3:=by kernel_rfl,
  i4:=by kernel_rfl,
  i5:=by kernel_rfl,
  i9:=by kernel_rfl,
  i20:=by kernel_rfl,
  i21:=by kernel_rfl,
  i37:=by kernel_rfl,
  i46:=by kernel_rfl,
  i51:=by kernel_rfl,
  i53:=by kernel_rfl,
  i75:=by kernel_rfl,
  i76:=by kernel_rfl,
  i80:=by kernel_rfl,
  i85:=by kernel_rfl,
  i127:=by kernel_rfl,
  i143:=by kernel_rfl,
  i145:=by kernel_rfl,
  i167:=by kernel_rfl,
  i168:=by kernel_rfl,
  i171:=by kernel_rfl,
  i173:=by kernel_rfl,
  i175:=by kernel_rfl,
  i210:=by kernel_rfl,
  i212:=by kernel_rfl,
  i232:=by kernel_rfl,
  i233:=by kernel_rfl,
  m15:=by kernel_rfl,
  m16:=by kernel_rfl,
  m17:=by kernel_rfl,
  m18:=by kernel_rfl,
  m19:=by kernel_rfl,
  c0:=by kernel_rfl,
  c2:=by kernel_rfl,
  c3:=by kernel_rfl,
  c4:=by kernel_rfl,
  c5:=by kernel_rfl,
  c9:=by kernel_rfl,
  c20:=by kernel_rfl,
  c21:=by kernel_rfl,
  c37:=by kernel_rfl,
  c46:=by kernel_rfl,
  c51:=by kernel_rfl,
  c53:=by kernel_rfl,
  c75:=by kernel_rfl,
  c76:=by kernel_rfl,
  c80:=by kernel_rfl,
  c85:=by kernel_rfl,
  c127:=by kernel_rfl,
  c143:=by kernel_rfl,
  c145:=by kernel_rfl,
  c167:=by kernel_rfl,
  c168:=by kernel_rfl,
  c171:=by kernel_rfl,
  c173:=by kernel_rfl,
  c175:=by kernel_rfl,
  c210:=by kernel_rfl,
  c212:=by kernel_rfl,
  c213:=by kernel_rfl,
  c232:=by kernel_rfl,
  c233:=by kernel_rfl }
theorem sh_n129:Go.Proofs.Lays.n129 Tryz.prog shRen :=
 {mixed:=by kernel_rfl,
  f129:=sh_f129,
  t3:=Tryz.underlying3,
  a3:=Tryz.isAgg3,
  z3:=Tryz.sizeOf3,
  v3:=Tryz.zeroValue3,
  t4:=Tryz.underlying4,
  a4:=Tryz.isAgg4,
  z4:=Tryz.sizeOf4,
  v4:=Tryz.zeroValue4,
  t5:=Tryz.underlying5,
  a5:=Tryz.isAgg5,
  z5:=Tryz.sizeOf5,
  v5:=Tryz.zeroValue5,
  t9:=Tryz.underlying9,
  a9:=Tryz.isAgg9,
  z9:=Tryz.sizeOf9,
  v9:=Tryz.zeroValue9,
  t46:=Tryz.underlying184,
  a46:=Tryz.isAgg184,
  z46:=Tryz.sizeOf184,
  v46:=Tryz.zeroValue184,
  t53:=Tryz.underlying186,
  a53:=Tryz.isAgg186,
  z53:=Tryz.sizeOf186,
  v53:=Tryz.zeroValue186 }
end Go.Proofs.YtpaklfjlbocfcaaGreatDoor

/- Contracts off the library's shelf: lengths in bits,numerals. By an AI agent;nothing here is trusted. -/
namespace Go.Proofs.YtpaklfjlbocfcaaGreatDoor
open Go.Av
open Go.RowKit (Below)

theorem vr_int {h:Array Obj} {ok:Nat→Prop} {ρ:Nat→Option Nat} {σ:Store} {k:IntKind} {n:Int} {v:Value} (hv:VR h ok ρ σ (.int k n) v):v=.int k n:=by cases hv;rfl
theorem vr_str {h:Array Obj} {ok:Nat→Prop} {ρ:Nat→Option Nat} {σ:Store} {l:List UInt8} {v:Value} (hv:VR h ok ρ σ (.str l) v):v=.string ⟨l.toArray⟩:=by
 cases hv with
 | str _ b hs =>
  congr 1
  cases b with
  | mk d=>simp only at hs;subst hs;simp
theorem args_1 {cargs:Array Value} {v:Value} (hlen:cargs.size=1) (h0:cargs.getD 0 undef=v):cargs=#[v]:=by
 apply Array.ext
 ·simpa using hlen
 ·intro i hi1 hi2
  simp at hi2
  subst hi2
  simpa [Array.getD,hi1] using h0
theorem args_2 {cargs:Array Value} {v u:Value} (hlen:cargs.size=2) (h0:cargs.getD 0 undef=v) (h1:cargs.getD 1 undef=u):cargs=#[v,u]:=by
 apply Array.ext
 ·simpa using hlen
 ·intro i hi1 hi2
  simp at hi2
  have:i=0∨i=1:=by omega
  rcases this with rfl | rfl
  ·simpa [Array.getD,hi1] using h0
  ·simpa [Array.getD,hi1] using h1
theorem below_drewN (w:World) (n:Nat):Below w.heap.size w (w.drewN n):=⟨rfl,rfl,rfl,Nat.le_refl _,fun _ _=>rfl⟩
theorem below_grow (w:World) (os:Array Obj):Below w.heap.size w (Go.Sort.grow w os) :=
 ⟨rfl,rfl,rfl,by simp [Go.Sort.grow],fun k hk=>by simp [Go.Sort.grow,Array.getElem?_append_left hk]⟩
theorem below_dg (w:World) (n:Nat) (os:Array Obj):Below w.heap.size w (Go.Sort.grow (w.drewN n) os):=(below_drewN w n).trans (below_grow (w.drewN n) os)

theorem tab_of {ok:Nat→Prop} {w:World} (hG:GOk ok w):Lib.TabIs Tryz.prog w "internal/strconv.uint64pow10" .u64 Lib.pow10Tab:=by
 have hm:(9,IntKind.u64,Lib.pow10Tab) ∈ gTab:=by
  have:Lib.pow10Tab=[1,10,100,1000,10000,100000,1000000,10000000,100000000,1000000000,10000000000,100000000000,1000000000000,10000000000000,100000000000000,1000000000000000,10000000000000000,100000000000000000,1000000000000000000,10000000000000000000]:=by decide +kernel
  rw [this];simp [gTab]
 obtain ⟨_,cur,ty,fr,h2,h3,h4⟩:=hG.1 _ hm
 have hg:Tryz.prog.globalNamed "internal/strconv.uint64pow10"=some 9:=by kernel_rfl
 unfold Lib.TabIs World.var?
 rw [hg]
 simp only [Option.bind_some,h2]
 congr 1
 apply Array.ext
 ·simpa using h3
 ·intro i h5 h6
  have hi:i<Lib.pow10Tab.length:=by simpa using h6
  have:=h4 i _ (List.getElem?_eq_getElem hi)
  rw [Array.getElem?_eq_getElem h5] at this
  simpa using this
theorem Len64_s (x:Nat) (hx:x<18446744073709551616):Sound Tryz.prog 223 [.int .u64 x] (.int .i64 (Lib.bitLen x)):=by
 intro w ok cargs hok _ hlen hargs
 rw [args_1 (by simpa using hlen) (vr_int (hargs 0 _ rfl))]
 refine .inr ⟨callFunc_enter Tryz.func223 (by kernel_rfl) rfl _,(Any.bits_Len64 sh_n129 (x:Int) w (by omega) (by omega)).mono fun e w' ⟨he,hw⟩=>⟨_,he,?_,?_⟩⟩
 ·rw [hw];exact Below.refl _ _
 ·simp only [Int.toNat_natCast];exact .int _ _
theorem Itoa_s (n:Int) (hn:I64 n):Sound Tryz.prog 145 [.int .i64 n] (.str (Lib.itoa n)):=by
 intro w ok cargs hok hG hlen hargs
 rw [args_1 (by simpa using hlen) (vr_int (hargs 0 _ rfl))]
 refine .inr ⟨callFunc_enter Tryz.func145 (by kernel_rfl) rfl _,(Any.strconv_Itoa sh_n171 n hn.1 hn.2 w (tab_of hG)).mono fun e w' ⟨he,k,os,hw⟩=>⟨_,he,?_,?_⟩⟩
 ·rw [hw];exact below_dg _ _ _
 ·exact .str _ _ (by simp)
theorem small_s (u:Nat) (hu:u<100):Sound Tryz.prog 224 [.int .i64 u] (.str (Lib.decDigits u)):=by
 intro w ok cargs hok hG hlen hargs
 rw [args_1 (by simpa using hlen) (vr_int (hargs 0 _ rfl))]
 refine .inr ⟨callFunc_enter Tryz.func224 (by kernel_rfl) rfl _,(Any.internal_strconv_small { sh_n283 with } u hu w).mono fun e w' ⟨he,hw⟩=>⟨_,he,?_,?_⟩⟩
 ·rw [hw];exact Below.refl _ _
 ·exact .str _ _ (by simp)
end Go.Proofs.YtpaklfjlbocfcaaGreatDoor

/- The contract of strconv.FormatUint at base 10. By an AI agent;nothing here is trusted. -/
namespace Go.Proofs.YtpaklfjlbocfcaaGreatDoor
open Go.Shelf Go.RowKit Go.Sort Go.Lib

theorem holds_zero0 (w:World) (T:TypeId) (nd:Nat) (hs:nd≤24):Holds (fun (b:UInt8)=>Value.int .u8 (b.toNat:Int)) (w.alloc (.cells zeros24 T)) w.heap.size 0 (Array.replicate nd (0:UInt8)):=fun j hj=>by
 have hj':j<nd:=by simpa using hj
 refine ⟨?_,World.frozen?_alloc_new _ _ _ _⟩
 rw [World.cell?_alloc_new,zeros24_at _ (by omega),getElem!_pos _ j hj]
 simp
theorem fin_pos0 (w:World) (o:Obj) (dk:Array UInt8) (k:Nat):∃ os,(putRow (fun (b:UInt8)=>Value.int .u8 (b.toNat:Int)) (w.alloc o) w.heap.size 0 dk).drewN k=grow (w.drewN k) os:=by
 rw [alloc_eq_grow]
 obtain ⟨os',_,e⟩:=putRow_grow_new (fun (b:UInt8)=>Value.int .u8 (b.toNat:Int)) w #[o] w.heap.size 0 dk (Nat.le_refl _)
 exact ⟨os',by rw [e];rfl⟩
set_option maxHeartbeats 6400000 in
set_option maxRecDepth 100000 in
theorem FormatUint_big (u:Nat) (h1:100≤u) (hu64:u<18446744073709551616) (w:World) (htab:Lib.TabIs Tryz.prog w "internal/strconv.uint64pow10" .u64 Lib.pow10Tab) :
  Calls Tryz.prog 209 #[.int .u64 u,.int .i64 10] w fun e w'=>e=.returned (.string ⟨(Lib.decDigits u).toArray⟩)∧∃ k os,w'=grow (w.drewN k) os:=by
 have hu1:1≤u:=by omega
 have hnd20:Lib.nDigits u≤20:=by have:=Lib.numDigits_eq u hu1 hu64;split at this <;> omega
 have hb4:Lib.nDigits u≤24:=by omega
 have ht:Tryz.prog.underlying 266=some (.array 24 5):=Tryz.underlying266
 have hal:Tryz.prog.arrayLen 266=24:=by simp [Program.arrayLen,ht]
 have hsl1:∀ W,(Instr.sliceAt 266 (.pointer (some ⟨w.heap.size,0,none⟩)) none (some (.int .i64 (Lib.nDigits u:Int))) none).run Tryz.prog W=.ok (.slice (some ⟨w.heap.size,0,none⟩) (Lib.nDigits u) 24) W:=fun W=>by
  rw [run_sliceAt_array_h W 266 ⟨w.heap.size,0,none⟩ (by simp [Program.arrayLen,Program.elem,ht]) .i64 (Lib.nDigits u:Int) (by omega) (by rw [hal];omega)]
  go_simp
 have hH0:=holds_zero0 w 266 (Lib.nDigits u) (by omega)
 have hfmt:=Any.internal_strconv_formatBase10 { sh_n285 with } w.heap.size 0 24 u (Array.replicate (Lib.nDigits u) 0) (w.alloc (.cells Lib.zeros24 266)) hH0 (by rw [Array.size_replicate];exact Lib.lt_pow_nDigits u) hu64 (by rw [Array.size_replicate];omega)
 rw [Array.size_replicate] at hfmt
 have HH0:=Lib.hid hH0
 clear hH0 hal
 go_enter Tryz.func209,Tryz.ntmps209
 go_wp2_with (first
  | (go_at_call 225;refine (Any.internal_strconv_numDigits { sh_n284 with } u hu1 hu64 _ (Lib.tabIs_alloc htab _)).mono ?_;rintro e w' ⟨rfl,rfl⟩))
 go_at_call 226
 refine hfmt.mono ?_
 rintro e w' ⟨rfl,k,v',dk,rfl,hF⟩
 have hcv:(convert 207 9 (.slice (some ⟨w.heap.size,0,none⟩) (Lib.nDigits u) 24)).run Tryz.prog ((putRow (fun (b:UInt8)=>Value.int .u8 (b.toNat:Int)) (w.alloc (.cells Lib.zeros24 266)) w.heap.size 0 dk).drewN k)=.ok (.string ⟨(Lib.decDigits u).toArray⟩) ((putRow (fun (b:UInt8)=>Value.int .u8 (b.toNat:Int)) (w.alloc (.cells Lib.zeros24 266)) w.heap.size 0 dk).drewN k):=by
  have h:=run_convert_bytes_back (P:=Tryz.prog) ((putRow (fun (b:UInt8)=>Value.int .u8 (b.toNat:Int)) (w.alloc (.cells Lib.zeros24 266)) w.heap.size 0 dk).drewN k) 207 9 5 ⟨w.heap.size,0,none⟩ 24 (Lib.decDigits u) Tryz.underlying207 Tryz.underlying5 Tryz.underlying9 (fun j hj=>by
   rw [Lib.row_is_numeral hF j hj,Lib.add_plain,World.cell?_drewN]
   exact cell?_putRow (fun (b:UInt8)=>Value.int .u8 (b.toNat:Int)) _ w.heap.size 0 _ dk HH0.out (by rw [hF.size,Array.size_replicate]) j (by rw [hF.size];rw [Lib.decDigits_length] at hj;exact hj))
  rw [Lib.decDigits_length] at h
  exact h
 go_wp2
 go_ret
 obtain ⟨os,eo⟩:=fin_pos0 w (.cells Lib.zeros24 266) dk k
 exact ⟨rfl,k,os,eo⟩
open Go.Av in
theorem iFormatUint_s (u:Nat) (hu:u<18446744073709551616):Sound Tryz.prog 209 [.int .u64 u,.int .i64 10] (.str (Lib.decDigits u)):=by
 by_cases h:u<100
 ·refine sound_W f_internal_strconv_FormatUint (Nat.le_of_ble_eq_true rfl) ?_
  have h':(u:Int)<100:=by omega
  simp only [c_internal_strconv_FormatUint,h',vZ,Int.reduceEq,Int.reduceNe,Int.reduceLT,Int.reduceLE,Nat.reduceEqDiff,Nat.reduceAdd,reduceIte,reduceCtorEq,Nat.reduceLT,Nat.reduceLeDiff,Nat.reduceShiftRight,Nat.reduceMod]
  (repeat (with_reducible refine And.intro ?_ ?_;focus (first | omega | (unfold I64;omega))))
  refine callS_of (small_s u h) ?_
  simp only [vZ,Int.reduceEq,Int.reduceNe,Int.reduceLT,Int.reduceLE,Nat.reduceEqDiff,Nat.reduceAdd,reduceIte,reduceCtorEq,Nat.reduceLT,Nat.reduceLeDiff,Nat.reduceShiftRight,Nat.reduceMod]
 ·intro w ok cargs hok hG hlen hargs
  rw [args_2 (by simpa using hlen) (vr_int (hargs 0 _ rfl)) (vr_int (hargs 1 _ rfl))]
  refine .inr ⟨callFunc_enter Tryz.func209 (by kernel_rfl) rfl _,(FormatUint_big u (by omega) hu w (tab_of hG)).mono fun e w' ⟨he,k,os,hw⟩=>⟨_,he,?_,?_⟩⟩
  ·rw [hw];exact below_dg _ _ _
  ·exact .str _ _ (by simp)
open Go.Av in
theorem FormatUint_s (u:Nat) (hu:u<18446744073709551616):Sound Tryz.prog 187 [.int .u64 u,.int .i64 10] (.str (Lib.decDigits u)):=by
 refine sound_W f_strconv_FormatUint (Nat.le_of_ble_eq_true rfl) ?_
 simp only [c_strconv_FormatUint,vZ,Int.reduceEq,Int.reduceNe,Int.reduceLT,Int.reduceLE,Nat.reduceEqDiff,Nat.reduceAdd,reduceIte,reduceCtorEq,Nat.reduceLT,Nat.reduceLeDiff,Nat.reduceShiftRight,Nat.reduceMod]
 refine callS_of (iFormatUint_s u hu) ?_
 simp only [vZ,Int.reduceEq,Int.reduceNe,Int.reduceLT,Int.reduceLE,Nat.reduceEqDiff,Nat.reduceAdd,reduceIte,reduceCtorEq,Nat.reduceLT,Nat.reduceLeDiff,Nat.reduceShiftRight,Nat.reduceMod]
end Go.Proofs.YtpaklfjlbocfcaaGreatDoor

/- The marked code of law functions;printed by a program. By an AI agent;nothing here is trusted. -/
namespace Go.Proofs.YtpaklfjlbocfcaaGreatDoor
open Go.Av
def cl_math_bits_Div64_19:ML:=(.seq (.reg 192 [mV 121 15,mO 122 (.bin .mul (.t 121) (.c (.int .u64 4294967296))),mV 123 18,mO 124 (.bin .add (.t 122) (.t 123)),mV 125 17,mO 126 (.bin .mul (.t 125) (.c (.int .u64 4294967296))),mV 127 14,mO 128 (.bin .add (.t 126) (.t 127)),mV 129 18,mV 130 2,mO 131 (.bin .mul (.t 129) (.t 130)),mO 132 (.bin .sub (.t 128) (.t 131)),mV 133 8,mO 134 (.bin .shr (.t 132) (.t 133)),mV 6 124,mV 7 134] false []) .ret)
def cl_math_bits_Div64_18:ML:=(.seq (.block 2 (.loop (.seq (.seq (.reg 10384593717069655257060992658949892 [mV 102 18,mO 103 (.bin .geq (.t 102) (.c (.int .u64 4294967296))),mV 104 103,mG 104 false 105 (.mv (.t 18)),mG 104 false 106 (.mv (.t 10)),mG 104 false 107 (.bin .mul (.t 105) (.t 106)),mG 104 false 108 (.mv (.t 16)),mG 104 false 109 (.bin .mul (.c (.int .u64 4294967296)) (.t 108)),mG 104 false 110 (.mv (.t 14)),mG 104 false 111 (.bin .add (.t 109) (.t 110)),mG 104 false 112 (.bin .gtr (.t 107) (.t 111)),mO 113 (.pick (.t 104) (.c (.bool true)) (.t 112))] false []) (.cond (.t 113) .skip (.exit 2))) (.block 3 (.seq (.reg 509700 [mV 114 18,mO 115 (.bin .sub (.t 114) (.c (.int .u64 1))),mV 18 115] false []) (.seq (.reg 509700 [mV 116 16,mV 117 9,mO 118 (.bin .add (.t 116) (.t 117)),mV 16 118] false []) (.seq (.reg 1329227995784915872903807060280854276 [mV 119 16,mO 120 (.bin .geq (.t 119) (.c (.int .u64 4294967296)))] false []) (.cond (.t 120) (.exit 2) .skip)))))))) (.cut cl_math_bits_Div64_19))
def cl_math_bits_Div64_15:ML:=(.seq (.reg 182020 [mV 86 11,mO 87 (.bin .mul (.t 86) (.c (.int .u64 4294967296))),mV 88 13,mO 89 (.bin .add (.t 87) (.t 88)),mV 90 15,mV 91 2,mO 92 (.bin .mul (.t 90) (.t 91)),mO 93 (.bin .sub (.t 89) (.t 92)),mV 17 93] false []) (.seq (.reg 444164 [mV 94 17,mV 95 9,mO 96 (.bin .quo (.t 94) (.t 95)),mV 18 96] false []) (.seq (.reg 509700 [mV 97 17,mV 98 18,mV 99 9,mO 100 (.bin .mul (.t 98) (.t 99)),mO 101 (.bin .sub (.t 97) (.t 100)),mV 16 101] false []) (.cut cl_math_bits_Div64_18))))
def cl_math_bits_Div64_14:ML:=(.seq (.block 0 (.loop (.seq (.seq (.reg 302231454903657293803268 [mV 67 15,mO 68 (.bin .geq (.t 67) (.c (.int .u64 4294967296))),mV 69 68,mG 69 false 70 (.mv (.t 15)),mG 69 false 71 (.mv (.t 10)),mG 69 false 72 (.bin .mul (.t 70) (.t 71)),mG 69 false 73 (.mv (.t 16)),mG 69 false 74 (.bin .mul (.c (.int .u64 4294967296)) (.t 73)),mG 69 false 75 (.mv (.t 13)),mG 69 false 76 (.bin .add (.t 74) (.t 75)),mG 69 false 77 (.bin .gtr (.t 72) (.t 76)),mO 78 (.pick (.t 69) (.c (.bool true)) (.t 77))] false []) (.cond (.t 78) .skip (.exit 0))) (.block 1 (.seq (.reg 126724 [mV 79 15,mO 80 (.bin .sub (.t 79) (.c (.int .u64 1))),mV 15 80] false []) (.seq (.reg 126724 [mV 81 16,mV 82 9,mO 83 (.bin .add (.t 81) (.t 82)),mV 16 83] false []) (.seq (.reg 38685626227668133590724356 [mV 84 16,mO 85 (.bin .geq (.t 84) (.c (.int .u64 4294967296)))] false []) (.cond (.t 85) (.exit 0) .skip)))))))) (.cut cl_math_bits_Div64_15))
def cl_math_bits_Div64:ML:=(.seq (.reg 7 [mO 6 (.mv (.c (.int .u64 0))),mO 7 (.mv (.c (.int .u64 0)))] false []) (.seq (.seq (.reg 1048583 [mV 19 2,mO 20 (.bin .eql (.t 19) (.c (.int .u64 0)))] false []) (.cond (.t 20) (.reg 7 [mO 21 (.load none (.c .undef)),⟨none,none,.copy 0 (.c .undef) (.c .undef)⟩] false []) .skip)) (.seq (.seq (.reg 16777223 [mV 22 2,mV 23 0,mO 24 (.bin .leq (.t 22) (.t 23))] false []) (.cond (.t 24) (.reg 7 [mO 25 (.load none (.c .undef)),⟨none,none,.copy 0 (.c .undef) (.c .undef)⟩] false []) .skip)) (.seq (.seq (.reg 134217735 [mV 26 0,mO 27 (.bin .eql (.t 26) (.c (.int .u64 0)))] false []) (.cond (.t 27) (.seq (.reg 192 [mV 28 1,mV 29 2,mO 30 (.bin .quo (.t 28) (.t 29)),mV 31 1,mV 32 2,mO 33 (.bin .rem (.t 31) (.t 32)),mV 6 30,mV 7 33] true []) .ret) .skip)) (.seq (.reg 263 [mV 34 2,mO 35 (.call 208 [(.t 34)]),mO 36 (.convI .u64 (.t 35)),mV 8 36] false []) (.seq (.reg 263 [mV 37 2,mV 38 8,mO 39 (.bin .shl (.t 37) (.t 38)),mV 2 39] false []) (.seq (.reg 775 [mV 40 2,mO 41 (.bin .shr (.t 40) (.c (.int .u64 32))),mV 9 41] false []) (.seq (.reg 1799 [mV 42 2,mO 43 (.bin .and (.t 42) (.c (.int .u64 4294967295))),mV 10 43] false []) (.seq (.reg 3846 [mV 44 0,mV 45 8,mO 46 (.bin .shl (.t 44) (.t 45)),mV 47 1,mV 48 8,mO 49 (.bin .sub (.c (.int .u64 64)) (.t 48)),mO 50 (.bin .shr (.t 47) (.t 49)),mO 51 (.bin .or (.t 46) (.t 50)),mV 11 51] false []) (.seq (.reg 7940 [mV 52 1,mV 53 8,mO 54 (.bin .shl (.t 52) (.t 53)),mV 12 54] false []) (.seq (.reg 16132 [mV 55 12,mO 56 (.bin .shr (.t 55) (.c (.int .u64 32))),mV 13 56] false []) (.seq (.reg 28420 [mV 57 12,mO 58 (.bin .and (.t 57) (.c (.int .u64 4294967295))),mV 14 58] false []) (.seq (.reg 61188 [mV 59 11,mV 60 9,mO 61 (.bin .quo (.t 59) (.t 60)),mV 15 61] false []) (.seq (.reg 126724 [mV 62 11,mV 63 15,mV 64 9,mO 65 (.bin .mul (.t 63) (.t 64)),mO 66 (.bin .sub (.t 62) (.t 65)),mV 16 66] false []) (.cut cl_math_bits_Div64_14)))))))))))))))
def c_math_bits_Div64:MC:=cl_math_bits_Div64.er
theorem f_math_bits_Div64:cFun Tryz.prog 186=some (135,3,c_math_bits_Div64,[(6,none),(7,none)]):=by kernel_rfl
theorem e_math_bits_Div64:cl_math_bits_Div64.er=c_math_bits_Div64:=rfl
end Go.Proofs.YtpaklfjlbocfcaaGreatDoor

/- Parts that all chapters share. Contracts of small functions. By an AI agent;nothing here is trusted. -/
namespace Go.Proofs.YtpaklfjlbocfcaaGreatDoor
open Go.Av

abbrev i64 (n:Int):AV:=.int .i64 n
def firstErr (l:List Int):Int:=(l.find? (· ≠ 0)).getD 0

def idxOf {α:Type} (l:List α) (p:α→Bool):Int:=match l.findIdx? p with
 | some i=>i
 | none => -1

theorem map_fx1 {caps:List AV} (h:∀ c ∈ caps,fx1 c=true) (s:Store) (n:Nat):caps.map (bor s n)=caps:=by
 conv=>rhs;rw [← List.map_id caps]
 exact List.map_congr_left fun c hc=>(fx1_spec (h c hc)).2 s n

theorem idxFunc_int_s (l:List Int) (f:FuncId) (caps:List AV) (p:Int→Bool) (hl:l.length<4000000000000000000) (hc:∀ c ∈ caps,fx1 c=true)
  (hp:∀ x ∈ l,Sound Tryz.prog f (.int .i64 x :: caps) (.bool (p x))):Sound Tryz.prog 168 [.sl (ints l),.fn f caps] (.int .i64 (idxOf l p)):=by
 refine sound_W f_slices_IndexFunc_int_int (Nat.le_of_ble_eq_true rfl) ?_
 simp only [c_slices_IndexFunc_int_int,vcC,Int.reduceEq,Int.reduceNe,Int.reduceLT,Int.reduceLE,Nat.reduceEqDiff,Nat.reduceAdd,reduceIte,reduceCtorEq,Nat.reduceLT,Nat.reduceLeDiff,eq_self,vcP]
 refine W_loop (α:=PSigma fun i:Nat=>i≤l.length∧∀ x ∈ l.take i,p x=false) (fun i=>(envOf [(0,.sl (ints l)),(1,.fn f caps),(6,.sl (ints l)),(7,.int .i64 l.length),(8,.int .i64 i.1)],noStore)) (fun i=>l.length - i.1) ⟨0,by simp⟩ (weakE _ ?_) (fun ⟨i,hi,hn⟩=>?_)
 ·simp only [vcC,Int.reduceEq,Int.reduceNe,Int.reduceLT,Int.reduceLE,Nat.reduceEqDiff,Nat.reduceAdd,reduceIte,reduceCtorEq,Nat.reduceLT,Nat.reduceLeDiff,eq_self,vcP];rfl
 ·simp only [vcC,Int.reduceEq,Int.reduceNe,Int.reduceLT,Int.reduceLE,Nat.reduceEqDiff,Nat.reduceAdd,reduceIte,reduceCtorEq,Nat.reduceLT,Nat.reduceLeDiff,eq_self,vcP]
  refine brB_split (fun h=>?_) (fun h=>?_)
  ·have h':i<l.length:=by (simp only [decide_eq_true_eq,decide_eq_false_iff_not,Bool.not_true,I64,Bool.not_eq_true',Bool.not_eq_false',bne_iff_ne,beq_iff_eq,ne_eq] at *;omega)
   simp only [ints_get l i h',vcC,Int.reduceEq,Int.reduceNe,Int.reduceLT,Int.reduceLE,Nat.reduceEqDiff,Nat.reduceAdd,reduceIte,reduceCtorEq,Nat.reduceLT,Nat.reduceLeDiff,eq_self,vcP]
   refine ⟨by omega,?_⟩
   simp only [List.map_append,List.cons_append,List.nil_append,map_fx1 hc,vcC,Int.reduceEq,Int.reduceNe,Int.reduceLT,Int.reduceLE,Nat.reduceEqDiff,Nat.reduceAdd,reduceIte,reduceCtorEq,Nat.reduceLT,Nat.reduceLeDiff,eq_self,vcP]
   refine callS_of (hp _ (List.getElem_mem h')) ?_
   simp only [vcC,Int.reduceEq,Int.reduceNe,Int.reduceLT,Int.reduceLE,Nat.reduceEqDiff,Nat.reduceAdd,reduceIte,reduceCtorEq,Nat.reduceLT,Nat.reduceLeDiff,eq_self,vcP]
   refine brB_split (fun h=>?_) (fun h=>?_)
   ·simp only [vcC,Int.reduceEq,Int.reduceNe,Int.reduceLT,Int.reduceLE,Nat.reduceEqDiff,Nat.reduceAdd,reduceIte,reduceCtorEq,Nat.reduceLT,Nat.reduceLeDiff,eq_self,vcP]
    have hs:l.findIdx? p=some i:=by
     rw [List.findIdx?_eq_some_iff_getElem]
     refine ⟨h',h,fun j hj=>?_⟩
     have:=hn l[j] (by rw [List.mem_take_iff_getElem];exact ⟨j,by omega,rfl⟩)
     simp [this]
    simp [idxOf,hs]
   ·simp only [vcC,Int.reduceEq,Int.reduceNe,Int.reduceLT,Int.reduceLE,Nat.reduceEqDiff,Nat.reduceAdd,reduceIte,reduceCtorEq,Nat.reduceLT,Nat.reduceLeDiff,eq_self,vcP]
    refine ⟨by (simp only [decide_eq_true_eq,decide_eq_false_iff_not,Bool.not_true,I64,Bool.not_eq_true',Bool.not_eq_false',bne_iff_ne,beq_iff_eq,ne_eq] at *;omega),⟨i+1,by omega,?_⟩,by simp only;omega,weakE _ ?_⟩
    ·rw [List.take_succ_eq_append_getElem h']
     intro x hx
     rcases List.mem_append.1 hx with hx | hx
     ·exact hn x hx
     ·simp at hx;rw [hx];exact h
    ·simp only [vcC,Int.reduceEq,Int.reduceNe,Int.reduceLT,Int.reduceLE,Nat.reduceEqDiff,Nat.reduceAdd,reduceIte,reduceCtorEq,Nat.reduceLT,Nat.reduceLeDiff,eq_self,vcP];simp
  ·simp only [vcC,Int.reduceEq,Int.reduceNe,Int.reduceLT,Int.reduceLE,Nat.reduceEqDiff,Nat.reduceAdd,reduceIte,reduceCtorEq,Nat.reduceLT,Nat.reduceLeDiff,eq_self,vcP]
   have:i=l.length:=by (simp only [decide_eq_true_eq,decide_eq_false_iff_not,Bool.not_true,I64,Bool.not_eq_true',Bool.not_eq_false',bne_iff_ne,beq_iff_eq,ne_eq] at *;omega)
   subst this
   rw [List.take_length] at hn
   have hs:l.findIdx? p=none:=List.findIdx?_eq_none_iff.2 hn
   simp [idxOf,hs]

theorem idxOf_any {α:Type} (l:List α) (p:α→Bool):(decide (0≤idxOf l p))=l.any p:=by
 unfold idxOf
 cases h:l.findIdx? p with
 | none =>
  rw [List.findIdx?_eq_none_iff] at h
  have:l.any p=false:=by simpa using h
  rw [this];rfl
 | some i =>
  rw [List.findIdx?_eq_some_iff_getElem] at h
  obtain ⟨hi,hp,_⟩:=h
  have:l.any p=true:=List.any_eq_true.2 ⟨_,List.getElem_mem hi,hp⟩
  rw [this];simp

theorem contFunc_int_s (l:List Int) (f:FuncId) (caps:List AV) (p:Int→Bool) (hl:l.length<4000000000000000000) (hc:∀ c ∈ caps,fx1 c=true)
  (hp:∀ x ∈ l,Sound Tryz.prog f (.int .i64 x :: caps) (.bool (p x))):Sound Tryz.prog 113 [.sl (ints l),.fn f caps] (.bool (l.any p)):=by
 refine sound_W f_slices_ContainsFunc_int_int (Nat.le_of_ble_eq_true rfl) ?_
 simp only [c_slices_ContainsFunc_int_int,map_fx1 hc,vcC,Int.reduceEq,Int.reduceNe,Int.reduceLT,Int.reduceLE,Nat.reduceEqDiff,Nat.reduceAdd,reduceIte,reduceCtorEq,Nat.reduceLT,Nat.reduceLeDiff,eq_self,vcP]
 refine callS_of (idxFunc_int_s l f caps p hl hc hp) ?_
 simp only [vcC,Int.reduceEq,Int.reduceNe,Int.reduceLT,Int.reduceLE,Nat.reduceEqDiff,Nat.reduceAdd,reduceIte,reduceCtorEq,Nat.reduceLT,Nat.reduceLeDiff,eq_self,vcP]
 rw [idxOf_any]

end Go.Proofs.YtpaklfjlbocfcaaGreatDoor

/- Contracts of the chapter of pulses: small functions. By an AI agent;nothing here is trusted. -/
namespace Go.Proofs.YtpaklfjlbocfcaaGreatDoor
open Go.Av

theorem within_s (n lo hi:Int):Sound Tryz.prog 118 [.int .i64 n,.int .i64 lo,.int .i64 hi] (.bool (decide (lo≤n∧n≤hi))):=by
 refine sound_W f_pulse_within (Nat.le_of_ble_eq_true rfl) ?_
 simp only [c_pulse_within,vcC,Int.reduceEq,Int.reduceNe,Int.reduceLT,Int.reduceLE,Nat.reduceEqDiff,Nat.reduceAdd,reduceIte,reduceCtorEq,Nat.reduceLT,Nat.reduceLeDiff,eq_self,vcP]
 refine brB_split (fun h=>?_) (fun h=>?_) <;> simp only [h,vcC,Int.reduceEq,Int.reduceNe,Int.reduceLT,Int.reduceLE,Nat.reduceEqDiff,Nat.reduceAdd,reduceIte,reduceCtorEq,Nat.reduceLT,Nat.reduceLeDiff,eq_self,vcP]
 ·exact bool_eq (by simp at h;simp [h])
 ·simp at h;simp;omega

theorem unless_s (ok:Bool) (e:Int):Sound Tryz.prog 121 [.bool ok,.int .i64 e] (.int .i64 (if ok then 0 else e)):=by
 refine sound_W f_pulse_unless (Nat.le_of_ble_eq_true rfl) ?_
 simp only [c_pulse_unless,vcC,Int.reduceEq,Int.reduceNe,Int.reduceLT,Int.reduceLE,Nat.reduceEqDiff,Nat.reduceAdd,reduceIte,reduceCtorEq,Nat.reduceLT,Nat.reduceLeDiff,eq_self,vcP]
 refine brB_split (fun h=>?_) (fun h=>?_) <;> subst h <;> simp only [vcC,Int.reduceEq,Int.reduceNe,Int.reduceLT,Int.reduceLE,Nat.reduceEqDiff,Nat.reduceAdd,reduceIte,reduceCtorEq,Nat.reduceLT,Nat.reduceLeDiff,eq_self,vcP]

theorem first_s (l:List Int) (hl:l.length<4000000000000000000):Sound Tryz.prog 119 [.sl (ints l)] (.int .i64 (firstErr l)):=by
 refine sound_W f_pulse_first (Nat.le_of_ble_eq_true rfl) ?_
 simp only [c_pulse_first,vcC,Int.reduceEq,Int.reduceNe,Int.reduceLT,Int.reduceLE,Nat.reduceEqDiff,Nat.reduceAdd,reduceIte,reduceCtorEq,Nat.reduceLT,Nat.reduceLeDiff,eq_self,vcP]
 refine W_loop (α:=PSigma fun i:Nat=>i≤l.length∧∀ x ∈ l.take i,x=0) (fun i=>(envOf [(5,.sl (ints l)),(6,.int .i64 l.length),(7,.int .i64 i.1)],noStore)) (fun i=>l.length - i.1) ⟨0,by simp⟩ (weakE _ ?_) (fun ⟨i,hi,hn⟩=>?_)
 ·simp only [vcC,Int.reduceEq,Int.reduceNe,Int.reduceLT,Int.reduceLE,Nat.reduceEqDiff,Nat.reduceAdd,reduceIte,reduceCtorEq,Nat.reduceLT,Nat.reduceLeDiff,eq_self,vcP];rfl
 ·simp only [vcC,Int.reduceEq,Int.reduceNe,Int.reduceLT,Int.reduceLE,Nat.reduceEqDiff,Nat.reduceAdd,reduceIte,reduceCtorEq,Nat.reduceLT,Nat.reduceLeDiff,eq_self,vcP]
  refine brB_split (fun h=>?_) (fun h=>?_)
  ·have h':i<l.length:=by (simp only [decide_eq_true_eq,decide_eq_false_iff_not,Bool.not_true,I64,Bool.not_eq_true',Bool.not_eq_false',bne_iff_ne,beq_iff_eq,ne_eq] at *;omega)
   simp only [ints_get l i h',vcC,Int.reduceEq,Int.reduceNe,Int.reduceLT,Int.reduceLE,Nat.reduceEqDiff,Nat.reduceAdd,reduceIte,reduceCtorEq,Nat.reduceLT,Nat.reduceLeDiff,eq_self,vcP]
   refine ⟨by omega,?_⟩
   refine brB_split (fun h=>?_) (fun h=>?_)
   ·simp only [vcC,Int.reduceEq,Int.reduceNe,Int.reduceLT,Int.reduceLE,Nat.reduceEqDiff,Nat.reduceAdd,reduceIte,reduceCtorEq,Nat.reduceLT,Nat.reduceLeDiff,eq_self,vcP]
    have h0:l[i] ≠ 0:=by simpa using h
    have hs:l.find? (· ≠ 0)=some l[i]:=by
     rw [List.find?_eq_some_iff_getElem]
     exact ⟨by simpa using h0,i,h',rfl,fun j hj=>by simp [hn l[j] (by rw [List.mem_take_iff_getElem];exact ⟨j,by omega,rfl⟩)]⟩
    unfold firstErr
    rw [hs];rfl
   ·simp only [vcC,Int.reduceEq,Int.reduceNe,Int.reduceLT,Int.reduceLE,Nat.reduceEqDiff,Nat.reduceAdd,reduceIte,reduceCtorEq,Nat.reduceLT,Nat.reduceLeDiff,eq_self,vcP]
    refine ⟨by (simp only [decide_eq_true_eq,decide_eq_false_iff_not,Bool.not_true,I64,Bool.not_eq_true',Bool.not_eq_false',bne_iff_ne,beq_iff_eq,ne_eq] at *;omega),⟨i+1,by omega,?_⟩,by simp only;omega,weakE _ ?_⟩
    ·rw [List.take_succ_eq_append_getElem h']
     intro x hx
     rcases List.mem_append.1 hx with hx | hx
     ·exact hn x hx
     ·simp at hx h;rw [hx,h]
    ·simp only [vcC,Int.reduceEq,Int.reduceNe,Int.reduceLT,Int.reduceLE,Nat.reduceEqDiff,Nat.reduceAdd,reduceIte,reduceCtorEq,Nat.reduceLT,Nat.reduceLeDiff,eq_self,vcP];simp
  ·simp only [vcC,Int.reduceEq,Int.reduceNe,Int.reduceLT,Int.reduceLE,Nat.reduceEqDiff,Nat.reduceAdd,reduceIte,reduceCtorEq,Nat.reduceLT,Nat.reduceLeDiff,eq_self,vcP]
   have:i=l.length:=by (simp only [decide_eq_true_eq,decide_eq_false_iff_not,Bool.not_true,I64,Bool.not_eq_true',Bool.not_eq_false',bne_iff_ne,beq_iff_eq,ne_eq] at *;omega)
   subst this
   unfold firstErr
   rw [List.take_length] at hn
   rw [List.find?_eq_none.2 (fun x hx=>by simp [hn x hx])]
   rfl

theorem first2_s (a b:Int):Sound Tryz.prog 119 [.sl [.int .i64 a,.int .i64 b]] (.int .i64 (if a ≠ 0 then a else b)):=by
 have h:=first_s [a,b] (by simp)
 have e:firstErr [a,b]=if a ≠ 0 then a else b:=by
  unfold firstErr
  by_cases ha:a=0 <;> by_cases hb:b=0 <;> simp [ha,hb]
 rw [e] at h
 exact h
theorem first3_s (a b c:Int):Sound Tryz.prog 119 [.sl [.int .i64 a,.int .i64 b,.int .i64 c]] (.int .i64 (if a ≠ 0 then a else if b ≠ 0 then b else c)):=by
 have h:=first_s [a,b,c] (by simp)
 have e:firstErr [a,b,c]=if a ≠ 0 then a else if b ≠ 0 then b else c:=by
  unfold firstErr
  by_cases ha:a=0 <;> by_cases hb:b=0 <;> by_cases hc:c=0 <;> simp [ha,hb,hc]
 rw [e] at h
 exact h
end Go.Proofs.YtpaklfjlbocfcaaGreatDoor

/- Samples and droops,in plain Lean. By an AI agent;nothing here is trusted. -/
namespace Go.Proofs.YtpaklfjlbocfcaaGreatDoor
open Go.Av

def smp (n:Int):Bool:=decide (-10000≤n∧n≤10000)
def smE (l:List Int):Int:=if l.length=0 then 10 else if 24<l.length then 8 else if l.all smp then 0 else 2
def smI (l:List Int):Int:=if smE l=2 then idxOf l (fun n=>!smp n) else 0
theorem smE_ok {l:List Int} (h:smE l=0):1≤l.length∧l.length≤24∧∀ x ∈ l, -10000≤x∧x≤10000:=by
 unfold smE at h
 split at h
 ·cases h
 ·split at h
  ·cases h
  ·split at h
   ·rename_i h1 h2 h3
    exact ⟨by omega,by omega,fun x hx=>by have:=List.all_eq_true.1 h3 x hx;simpa [smp] using this⟩
   ·cases h
theorem smE_of {l:List Int} (h1:1≤l.length) (h2:l.length≤24) (h:l.all smp=true):smE l=0:=by
 unfold smE
 rw [if_neg (by omega),if_neg (by omega),if_pos h]
theorem smp_iff {n:Int}:smp n=true ↔ -10000≤n∧n≤10000:=by simp [smp]
structure Droop where
 leak:Int
 div:Int
def Droop.av (d:Droop):AV:=.agg [.int .i64 d.leak,.int .i64 d.div]
def Droop.ok (d:Droop):Prop:=(0≤d.leak∧d.leak≤1000)∧(1≤d.div∧d.div≤10000)
instance (d:Droop):Decidable d.ok:=by unfold Droop.ok;exact inferInstance
def Droop.e (d:Droop):Int:=if d.ok then 0 else 2

def drp (d:Droop) (up:Bool) (l:List Int):Nat→List Int × Int
 | 0=>([],0)
 | i+1=>((drp d up l i).1 ++ [if up then l.getD i 0+(drp d up l i).2 / d.div else l.getD i 0 - (drp d up l i).2 / d.div],
   (drp d up l i).2 - (drp d up l i).2 * d.leak / 1000+(if up then l.getD i 0+(drp d up l i).2 / d.div else l.getD i 0))
def drpY (d:Droop) (up:Bool) (l:List Int) (i:Nat):Int:=if up then l.getD i 0+(drp d up l i).2 / d.div else l.getD i 0 - (drp d up l i).2 / d.div
theorem drp_succ (d:Droop) (up:Bool) (l:List Int) (i:Nat):drp d up l (i+1) =
  ((drp d up l i).1 ++ [drpY d up l i],(drp d up l i).2 - (drp d up l i).2 * d.leak / 1000+(if up then drpY d up l i else l.getD i 0)):=by
 cases up <;> rfl
theorem drp_len (d:Droop) (up:Bool) (l:List Int):∀ i,(drp d up l i).1.length=i
 | 0=>rfl
 | i+1=>by rw [drp_succ];simp [drp_len d up l i]
theorem drp_pre (d:Droop) (up:Bool) (l:List Int) (i n:Nat) (h:i≤n):∃ r,(drp d up l n).1=(drp d up l i).1 ++ r:=by
 obtain ⟨k,rfl⟩:=Nat.exists_eq_add_of_le h
 induction k with
 | zero=>exact ⟨[],by simp⟩
 | succ k ih =>
  obtain ⟨r,hr⟩:=ih (by omega)
  exact ⟨r ++ [drpY d up l (i+k)],by rw [← Nat.add_assoc,drp_succ,hr,List.append_assoc]⟩
theorem drp_get (d:Droop) (up:Bool) (l:List Int) {i n:Nat} (h:i<n):(drp d up l n).1[i]?=some (drpY d up l i):=by
 obtain ⟨r,hr⟩:=drp_pre d up l (i+1) n h
 rw [hr,drp_succ,List.append_assoc,List.getElem?_append_right (by rw [drp_len];omega),drp_len]
 simp
theorem leak_le {s k:Int} (hk:0≤k∧k≤1000):(0≤s→0≤s - s * k / 1000∧s - s * k / 1000≤s)∧(s≤0→s≤s - s * k / 1000∧s - s * k / 1000≤0):=by
 constructor
 ·intro hs
  have h1:0≤s * k:=Int.mul_nonneg hs hk.1
  have h2:s * k≤s * 1000:=Int.mul_le_mul_of_nonneg_left hk.2 hs
  omega
 ·intro hs
  have h1:s * k≤0:=by
   have:=Int.mul_nonneg (show 0 ≤ -s by omega) hk.1
   rw [Int.neg_mul] at this;omega
  have h2:s * 1000≤s * k:=by
   have:=Int.mul_le_mul_of_nonneg_left hk.2 (show 0 ≤ -s by omega)
   rw [Int.neg_mul,Int.neg_mul] at this;omega
  omega
theorem drp_bound {d:Droop} (hd:d.ok) {up:Bool} {l:List Int} (hl:∀ x ∈ l, -10000≤x∧x≤10000):∀ i,(up=true→(drp d up l i).1.all smp=true) →
  -(10000 * (i:Int))≤(drp d up l i).2∧(drp d up l i).2≤10000 * (i:Int)
 | 0,_=>by simp [drp]
 | i+1,h=>by
  have hx : -10000≤l.getD i 0∧l.getD i 0≤10000:=by
   by_cases hi:i<l.length
   ·have:=hl l[i] (List.getElem_mem hi)
    simp [List.getD,List.getElem?_eq_getElem hi];exact this
   ·simp [List.getD,List.getElem?_eq_none (Nat.le_of_not_lt hi)]
  rw [drp_succ] at h ⊢
  have ih:=drp_bound hd hl i (fun hu=>by
   have:=h hu
   rw [List.all_append,Bool.and_eq_true] at this
   exact this.1)
  have hb:=leak_le (s:=(drp d up l i).2) hd.1
  simp only at h ⊢
  cases up with
  | false =>
   simp only [Bool.false_eq_true,if_false]
   omega
  | true =>
   have hy:=h rfl
   rw [List.all_append,Bool.and_eq_true] at hy
   have hy:=hy.2
   simp only [List.all_cons,List.all_nil,Bool.and_true] at hy
   rw [smp_iff] at hy
   simp only [if_true]
   omega

def drpE (d:Droop) (up:Bool) (l:List Int):Int:=if d.ok then (if smE l=0 then (if (drp d up l l.length).1.all smp then 0 else 8) else smE l) else 2
def drpO (d:Droop) (up:Bool) (l:List Int):List Int:=if drpE d up l=0 then (drp d up l l.length).1 else []
theorem drpE_ok {d:Droop} {up:Bool} {l:List Int} (h:drpE d up l=0):d.ok∧smE l=0∧(drp d up l l.length).1.all smp=true:=by
 unfold drpE at h
 split at h
 ·split at h
  ·split at h
   ·exact ⟨by assumption,by assumption,by assumption⟩
   ·cases h
  ·exact absurd h (by assumption)
 ·cases h

theorem drp_back (d:Droop) (up:Bool) (l:List Int):∀ i,i≤l.length→drp d (!up) (drp d up l l.length).1 i=(l.take i,(drp d up l i).2)
 | 0,_=>by simp [drp]
 | i+1,h=>by
  have ih:=drp_back d up l i (by omega)
  have hg:=drp_get d up l (i:=i) (n:=l.length) (by omega)
  have hy:drpY d (!up) (drp d up l l.length).1 i=l.getD i 0:=by
   unfold drpY
   rw [ih]
   simp only [List.getD,hg,Option.getD_some]
   unfold drpY
   cases up <;> simp <;> omega
  have ht:l.take (i+1)=l.take i ++ [l.getD i 0]:=by
   rw [List.take_succ_eq_append_getElem (by omega)]
   simp [List.getD,List.getElem?_eq_getElem (show i<l.length by omega)]
  rw [drp_succ,drp_succ,hy,ih,ht]
  simp only [Prod.mk.injEq,true_and]
  simp only [List.getD,hg,Option.getD_some]
  cases up
  ·simp [List.getD]
  ·simp [List.getD]
theorem drp_undone {d:Droop} {up:Bool} {l:List Int} (h:drpE d up l=0):drpE d (!up) (drpO d up l)=0∧drpO d (!up) (drpO d up l)=l∧smE (drpO d up l)=0:=by
 obtain ⟨h1,h2,h3⟩:=drpE_ok h
 have hlen:=drp_len d up l l.length
 obtain ⟨s1,s2,s3⟩:=smE_ok h2
 have ho:drpO d up l=(drp d up l l.length).1:=by unfold drpO;rw [if_pos h]
 have hs:smE (drpO d up l)=0:=by rw [ho];exact smE_of (by omega) (by omega) h3
 have hb:drp d (!up) (drpO d up l) (drpO d up l).length=(l,(drp d up l l.length).2):=by
  rw [ho,hlen,drp_back d up l l.length (Nat.le_refl _),List.take_length]
 have he:drpE d (!up) (drpO d up l)=0:=by
  unfold drpE
  rw [if_pos h1,if_pos hs,hb]
  simp only
  rw [if_pos]
  exact List.all_eq_true.2 fun x hx=>smp_iff.2 (s3 x hx)
 refine ⟨he,?_,hs⟩
 unfold drpO at ⊢
 rw [if_pos (by rw [← drpO] at *;exact he)]
 rw [← drpO,hb]
end Go.Proofs.YtpaklfjlbocfcaaGreatDoor

/- Dead times and afterpulses,in plain Lean. By an AI agent;nothing here is trusted. -/
namespace Go.Proofs.YtpaklfjlbocfcaaGreatDoor
open Go.Av

def kp (dead:Int) (l:List Int):Nat→List Int
 | 0=>[]
 | i+1=>if kp dead l i=[]∨dead<l.getD i 0 - (kp dead l i).getLastD 0 then kp dead l i ++ [l.getD i 0] else kp dead l i
def kept (dead:Int) (l:List Int):List Int:=kp dead l l.length
theorem getD_at {l:List Int} {i:Nat} (h:i<l.length):l.getD i 0=l[i]:=by simp [List.getD,List.getElem?_eq_getElem h]
end Go.Proofs.YtpaklfjlbocfcaaGreatDoor

/- Hits: runs of samples from a threshold on,in plain Lean. By an AI agent;nothing here is trusted. -/
namespace Go.Proofs.YtpaklfjlbocfcaaGreatDoor
open Go.Av

end Go.Proofs.YtpaklfjlbocfcaaGreatDoor

/- Contracts of the small functions of the base. By an AI agent;nothing here is trusted. -/
namespace Go.Proofs.YtpaklfjlbocfcaaGreatDoor
open Go.Av

theorem Within_s (n lo hi:Int):Sound Tryz.prog 40 [.int .i64 n,.int .i64 lo,.int .i64 hi] (.bool (decide (lo≤n∧n≤hi))):=by
 refine sound_W f_base_Within (Nat.le_of_ble_eq_true rfl) ?_
 simp only [c_base_Within,vcC,Int.reduceEq,Int.reduceNe,Int.reduceLT,Int.reduceLE,Nat.reduceEqDiff,Nat.reduceAdd,reduceIte,reduceCtorEq,Nat.reduceLT,Nat.reduceLeDiff,eq_self,vcP]
 refine brB_split (fun h=>?_) (fun h=>?_) <;> simp only [h,vcC,Int.reduceEq,Int.reduceNe,Int.reduceLT,Int.reduceLE,Nat.reduceEqDiff,Nat.reduceAdd,reduceIte,reduceCtorEq,Nat.reduceLT,Nat.reduceLeDiff,eq_self,vcP]
 ·exact bool_eq (by simp at h;simp [h])
 ·simp at h;simp;omega

theorem tdiv_floor (n by_:Int) (hb:0<by_):(if n.tmod by_<0 then n.tdiv by_ - 1 else n.tdiv by_)=n / by_:=by
 have h1:=Int.mul_tdiv_add_tmod n by_
 have h2:n.tmod by_<by_:=Int.tmod_lt_of_pos n hb
 have h3 : -by_<n.tmod by_:=by
  have:=Int.lt_tmod_of_pos n hb
  omega
 split
 ·rename_i h
  symm
  rw [Int.ediv_eq_iff_of_pos hb]
  constructor
  ·rw [Int.sub_mul];rw [Int.mul_comm] at h1;omega
  ·rw [Int.sub_mul];rw [Int.mul_comm] at h1;omega
 ·symm
  rw [Int.ediv_eq_iff_of_pos hb]
  rw [Int.mul_comm] at h1
  constructor
  ·omega
  ·omega

theorem tdiv_I64 {n by_:Int} (hn:I64 n) (hb:0<by_) : -9223372036854775808≤n.tdiv by_∧n.tdiv by_≤9223372036854775807∧(n.tmod by_<0 → -9223372036854775807≤n.tdiv by_):=by
 have h1:=Int.mul_tdiv_add_tmod n by_
 have h2:n.tmod by_<by_:=Int.tmod_lt_of_pos n hb
 have h3 : -by_<n.tmod by_:=Int.lt_tmod_of_pos n hb
 have ha:(n.tdiv by_).natAbs≤n.natAbs:=by
  rw [Int.natAbs_tdiv];exact Nat.div_le_self _ _
 obtain ⟨q1,q2⟩:=hn
 have hu:n.tdiv by_≤9223372036854775807:=by
  by_cases hn0:0≤n
  ·omega
  ·have:n.tdiv by_≤0:=by
    have:=Int.tdiv_nonneg (a := -n) (b:=by_) (by omega) (by omega)
    rw [Int.neg_tdiv] at this;omega
   omega
 refine ⟨by omega,hu,fun h=>?_⟩
 by_cases hb1:by_=1
 ·subst hb1;rw [Int.tmod_one] at h;omega
 ·have:(n.tdiv by_).natAbs≤n.natAbs / 2:=by
   rw [Int.natAbs_tdiv]
   exact Nat.div_le_div_left (by omega) (by omega)
  omega

end Go.Proofs.YtpaklfjlbocfcaaGreatDoor

/- Contracts of the base: copies,comparisons,fractions. By an AI agent;nothing here is trusted. -/
namespace Go.Proofs.YtpaklfjlbocfcaaGreatDoor
open Go.Av

theorem newsOk_ints (l:List Int):newsOk 1 (ints l):=by
 intro x hx
 obtain ⟨n,_,rfl⟩:=List.mem_map.1 hx
 exact ⟨rfl,rfl⟩
theorem maxLen_big:4000000000000≤maxLen:=by decide

theorem CopyInts_s (l:List Int) (hl:l.length≤1000000000):Sound Tryz.prog 49 [.sl (ints l)] (.sl (ints l)):=by
 refine sound_W f_base_CopyInts (Nat.le_of_ble_eq_true rfl) ?_
 have hm:=maxLen_big
 simp only [c_base_CopyInts,vZ,Int.reduceEq,Int.reduceNe,Int.reduceLT,Int.reduceLE,Nat.reduceEqDiff,Nat.reduceAdd,reduceIte,reduceCtorEq,Nat.reduceLT,Nat.reduceLeDiff,Nat.reduceShiftRight,Nat.reduceMod]
 refine ⟨newsOk_ints l,⟨by omega,by omega⟩,?_⟩
 rw [borB_good _ _ _ _ _ (by simp [ints]) (ints_fx _)]

theorem Ints_s (a b:List Int) (ha:a.length≤1000000000):Sound Tryz.prog 33 [.sl (ints a),.sl (ints b)] (.bool (decide (a=b))):=by
 refine sound_W f_base_Ints (Nat.le_of_ble_eq_true rfl) ?_
 simp only [c_base_Ints,vZ,Int.reduceEq,Int.reduceNe,Int.reduceLT,Int.reduceLE,Nat.reduceEqDiff,Nat.reduceAdd,reduceIte,reduceCtorEq,Nat.reduceLT,Nat.reduceLeDiff,Nat.reduceShiftRight,Nat.reduceMod]
 refine brB_split (fun h=>?_) (fun h=>?_)
 ·simp only [vZ,Int.reduceEq,Int.reduceNe,Int.reduceLT,Int.reduceLE,Nat.reduceEqDiff,Nat.reduceAdd,reduceIte,reduceCtorEq,Nat.reduceLT,Nat.reduceLeDiff,Nat.reduceShiftRight,Nat.reduceMod]
  have:a ≠ b:=fun hab=>by subst hab;simp at h
  simp [this]
 ·have hlen:a.length=b.length:=by (simp only [decide_eq_true_eq,decide_eq_false_iff_not,Bool.not_true,I64,Bool.not_eq_true',Bool.not_eq_false',bne_iff_ne,beq_iff_eq,ne_eq] at *;omega)
  simp only [vZ,Int.reduceEq,Int.reduceNe,Int.reduceLT,Int.reduceLE,Nat.reduceEqDiff,Nat.reduceAdd,reduceIte,reduceCtorEq,Nat.reduceLT,Nat.reduceLeDiff,Nat.reduceShiftRight,Nat.reduceMod]
  refine W_loop (α:=PSigma fun i:Nat=>i≤a.length∧a.take i=b.take i) (fun i=>(envOf [(0,.sl (ints a)),(1,.sl (ints b)),(5,.int .i64 i.1)],noStore)) (fun i=>a.length - i.1) ⟨0,by simp⟩ (weakE _ ?_) (fun ⟨i,hi,hn⟩=>?_)
  ·simp only [vZ,Int.reduceEq,Int.reduceNe,Int.reduceLT,Int.reduceLE,Nat.reduceEqDiff,Nat.reduceAdd,reduceIte,reduceCtorEq,Nat.reduceLT,Nat.reduceLeDiff,Nat.reduceShiftRight,Nat.reduceMod];rfl
  ·simp only [vZ,Int.reduceEq,Int.reduceNe,Int.reduceLT,Int.reduceLE,Nat.reduceEqDiff,Nat.reduceAdd,reduceIte,reduceCtorEq,Nat.reduceLT,Nat.reduceLeDiff,Nat.reduceShiftRight,Nat.reduceMod]
   refine brB_split (fun h=>?_) (fun h=>?_)
   ·have h':i<a.length:=by (simp only [decide_eq_true_eq,decide_eq_false_iff_not,Bool.not_true,I64,Bool.not_eq_true',Bool.not_eq_false',bne_iff_ne,beq_iff_eq,ne_eq] at *;omega)
    have h2:i<b.length:=by omega
    simp only [ints_get a i h',ints_get b i h2,vZ,Int.reduceEq,Int.reduceNe,Int.reduceLT,Int.reduceLE,Nat.reduceEqDiff,Nat.reduceAdd,reduceIte,reduceCtorEq,Nat.reduceLT,Nat.reduceLeDiff,Nat.reduceShiftRight,Nat.reduceMod]
    refine ⟨by omega,by omega,?_⟩
    refine brB_split (fun h=>?_) (fun h=>?_)
    ·simp only [vZ,Int.reduceEq,Int.reduceNe,Int.reduceLT,Int.reduceLE,Nat.reduceEqDiff,Nat.reduceAdd,reduceIte,reduceCtorEq,Nat.reduceLT,Nat.reduceLeDiff,Nat.reduceShiftRight,Nat.reduceMod]
     have:a ≠ b:=fun hab=>by subst hab;simp at h
     simp [this]
    ·simp only [vZ,Int.reduceEq,Int.reduceNe,Int.reduceLT,Int.reduceLE,Nat.reduceEqDiff,Nat.reduceAdd,reduceIte,reduceCtorEq,Nat.reduceLT,Nat.reduceLeDiff,Nat.reduceShiftRight,Nat.reduceMod]
     refine ⟨by (simp only [decide_eq_true_eq,decide_eq_false_iff_not,Bool.not_true,I64,Bool.not_eq_true',Bool.not_eq_false',bne_iff_ne,beq_iff_eq,ne_eq] at *;omega),⟨i+1,by omega,?_⟩,by simp only;omega,weakE _ ?_⟩
     ·rw [List.take_succ_eq_append_getElem h',List.take_succ_eq_append_getElem h2,hn]
      simp at h;rw [h]
     ·simp only [vZ,Int.reduceEq,Int.reduceNe,Int.reduceLT,Int.reduceLE,Nat.reduceEqDiff,Nat.reduceAdd,reduceIte,reduceCtorEq,Nat.reduceLT,Nat.reduceLeDiff,Nat.reduceShiftRight,Nat.reduceMod];simp
   ·simp only [vZ,Int.reduceEq,Int.reduceNe,Int.reduceLT,Int.reduceLE,Nat.reduceEqDiff,Nat.reduceAdd,reduceIte,reduceCtorEq,Nat.reduceLT,Nat.reduceLeDiff,Nat.reduceShiftRight,Nat.reduceMod]
    have:i=a.length:=by (simp only [decide_eq_true_eq,decide_eq_false_iff_not,Bool.not_true,I64,Bool.not_eq_true',Bool.not_eq_false',bne_iff_ne,beq_iff_eq,ne_eq] at *;omega)
    subst this
    have hb:a=b:=by
     have:=hn
     rw [List.take_length,hlen,List.take_length] at this
     exact this
    simp [hb]

def S63 (n:Int):Prop := -9223372036854775807≤n∧n≤9223372036854775807
theorem max_neg (n:Int):max n (-n)=n.natAbs:=by omega
theorem gcd_tmod (a b:Int):Int.gcd b (a.tmod b)=Int.gcd a b:=by
 unfold Int.gcd
 rw [Int.natAbs_tmod,Nat.gcd_comm,← Nat.gcd_rec,Nat.gcd_comm]
theorem tmod_S {a b:Int} (hb:S63 b) (h0:b ≠ 0):S63 (a.tmod b)∧(a.tmod b).natAbs<b.natAbs:=by
 have h:(a.tmod b).natAbs<b.natAbs:=by
  rw [Int.natAbs_tmod]
  exact Nat.mod_lt _ (by omega)
 unfold S63 at hb ⊢
 exact ⟨by omega,h⟩
def lowG (num den:Int):Int:=if den<0 then -(Int.gcd num den) else Int.gcd num den
def lowN (num den:Int):Int:=num.tdiv (lowG num den)
def lowD (num den:Int):Int:=den.tdiv (lowG num den)
def fracA (n d:Int):AV:=.agg [.int .i64 n,.int .i64 d]
theorem tdiv_S {a b:Int} (ha:S63 a):S63 (a.tdiv b):=by
 have:(a.tdiv b).natAbs≤a.natAbs:=by rw [Int.natAbs_tdiv];exact Nat.div_le_self _ _
 unfold S63 at *;omega
theorem gcd_S {a b:Int} (hb:S63 b) (h0:b ≠ 0):(Int.gcd a b:Int)≤9223372036854775807:=by
 have h:Int.gcd a b≤b.natAbs:=Nat.gcd_le_right _ (by omega)
 unfold S63 at hb;omega
theorem Whole_s (n:Int):Sound Tryz.prog 67 [.int .i64 n] (fracA n 1):=by
 refine sound_W f_base_Whole (Nat.le_of_ble_eq_true rfl) ?_
 simp only [c_base_Whole,vZ,Int.reduceEq,Int.reduceNe,Int.reduceLT,Int.reduceLE,Nat.reduceEqDiff,Nat.reduceAdd,reduceIte,reduceCtorEq,Nat.reduceLT,Nat.reduceLeDiff,Nat.reduceShiftRight,Nat.reduceMod]
 rfl
def smallF (n d:Int):Bool:=decide (-1000000000≤n∧n≤1000000000) && decide (1≤d∧d≤1000000000)
end Go.Proofs.YtpaklfjlbocfcaaGreatDoor

/- Lowest terms,gains and charges,in plain Lean. By an AI agent;nothing here is trusted. -/
namespace Go.Proofs.YtpaklfjlbocfcaaGreatDoor
open Go.Av

theorem low_parts {n d:Int} (hd:0<d):∃ g:Int,0<g∧n=g * lowN n d∧d=g * lowD n d∧Int.gcd (lowN n d) (lowD n d)=1:=by
 have hg:0<Int.gcd n d:=Int.gcd_pos_of_ne_zero_right _ (by omega)
 have hn:¬ d<0:=by omega
 have e1:lowN n d=n / (Int.gcd n d:Int):=by
  unfold lowN lowG;rw [if_neg hn]
  exact Int.tdiv_eq_ediv_of_dvd (Int.gcd_dvd_left _ _)
 have e2:lowD n d=d / (Int.gcd n d:Int):=by
  unfold lowD lowG;rw [if_neg hn]
  exact Int.tdiv_eq_ediv_of_dvd (Int.gcd_dvd_right _ _)
 refine ⟨Int.gcd n d,by omega,?_,?_,?_⟩
 ·rw [e1,Int.mul_ediv_cancel' (Int.gcd_dvd_left _ _)]
 ·rw [e2,Int.mul_ediv_cancel' (Int.gcd_dvd_right _ _)]
 ·rw [e1,e2];exact Int.gcd_ediv_gcd_ediv_gcd hg
theorem low_pos {n d:Int} (hd:0<d):0<lowD n d∧(0≤n→0≤lowN n d):=by
 obtain ⟨g,h1,h2,h3,_⟩:=low_parts (n:=n) hd
 generalize lowN n d=x at *
 generalize lowD n d=y at *
 constructor
 ·by_cases hy:0<y
  ·exact hy
  ·exfalso
   have:=Int.mul_nonneg (show 0≤g by omega) (show 0 ≤ -y by omega)
   rw [Int.mul_neg] at this;omega
 ·intro hn
  by_cases hx:0≤x
  ·exact hx
  ·exfalso
   have:=Int.mul_le_mul_of_nonneg_left (show x ≤ -1 by omega) (show 0≤g by omega)
   omega
theorem sum_le {l:List Int} {m:Int} (h:∀ x ∈ l,0≤x∧x≤m):0≤l.sum∧l.sum≤l.length * m:=by
 induction l with
 | nil=>simp
 | cons x l ih =>
  have h1:=h x List.mem_cons_self
  have h2:=ih fun y hy=>h y (List.mem_cons_of_mem _ hy)
  simp only [List.sum_cons,List.length_cons]
  rw [show ((l.length+1:Nat):Int)=(l.length:Int)+1 by omega,Int.add_mul,Int.one_mul]
  omega
theorem photon_eq {n b:Int} (hn:0≤n) (hb:0<b):(2 * n+b).tdiv (2 * b)=(2 * n+b) / (2 * b):=Int.tdiv_eq_ediv_of_nonneg (by omega)
end Go.Proofs.YtpaklfjlbocfcaaGreatDoor

/- Contracts: samples,times,dead times. By an AI agent;nothing here is trusted. -/
namespace Go.Proofs.YtpaklfjlbocfcaaGreatDoor
open Go.Av

theorem isSized_s (n most:Int) (hm:S63 most):Sound Tryz.prog 171 [.int .i64 n,.int .i64 most] (.bool (decide (-most≤n∧n≤most))):=by
 refine sound_W f_pulse_isSized (Nat.le_of_ble_eq_true rfl) ?_
 unfold S63 at hm
 simp only [c_pulse_isSized,vZ,Int.reduceEq,Int.reduceNe,Int.reduceLT,Int.reduceLE,Nat.reduceEqDiff,Nat.reduceAdd,reduceIte,reduceCtorEq,Nat.reduceLT,Nat.reduceLeDiff,Nat.reduceShiftRight,Nat.reduceMod]
 refine ⟨by unfold I64;omega,?_⟩
 refine callS_of (within_s _ _ _) ?_
 simp only [vZ,Int.reduceEq,Int.reduceNe,Int.reduceLT,Int.reduceLE,Nat.reduceEqDiff,Nat.reduceAdd,reduceIte,reduceCtorEq,Nat.reduceLT,Nat.reduceLeDiff,Nat.reduceShiftRight,Nat.reduceMod]
theorem isSample_s (n:Int):Sound Tryz.prog 140 [.int .i64 n] (.bool (smp n)):=by
 refine sound_W f_pulse_isSample (Nat.le_of_ble_eq_true rfl) ?_
 simp only [c_pulse_isSample,vZ,Int.reduceEq,Int.reduceNe,Int.reduceLT,Int.reduceLE,Nat.reduceEqDiff,Nat.reduceAdd,reduceIte,reduceCtorEq,Nat.reduceLT,Nat.reduceLeDiff,Nat.reduceShiftRight,Nat.reduceMod]
 refine callS_of (isSized_s _ _ (by unfold S63;omega)) ?_
 simp only [vZ,Int.reduceEq,Int.reduceNe,Int.reduceLT,Int.reduceLE,Nat.reduceEqDiff,Nat.reduceAdd,reduceIte,reduceCtorEq,Nat.reduceLT,Nat.reduceLeDiff,Nat.reduceShiftRight,Nat.reduceMod]
 unfold smp
 exact bool_eq Iff.rfl
theorem IsSample_s (n:Int):Sound Tryz.prog 161 [.int .i64 n] (.bool (smp n)):=by
 refine sound_W f_ref02_IsSample (Nat.le_of_ble_eq_true rfl) ?_
 simp only [c_ref02_IsSample,vZ,Int.reduceEq,Int.reduceNe,Int.reduceLT,Int.reduceLE,Nat.reduceEqDiff,Nat.reduceAdd,reduceIte,reduceCtorEq,Nat.reduceLT,Nat.reduceLeDiff,Nat.reduceShiftRight,Nat.reduceMod]
 refine callS_of (Within_s _ _ _) ?_
 simp only [vZ,Int.reduceEq,Int.reduceNe,Int.reduceLT,Int.reduceLE,Nat.reduceEqDiff,Nat.reduceAdd,reduceIte,reduceCtorEq,Nat.reduceLT,Nat.reduceLeDiff,Nat.reduceShiftRight,Nat.reduceMod]
 unfold smp
 exact bool_eq Iff.rfl
end Go.Proofs.YtpaklfjlbocfcaaGreatDoor

/- Contracts: sums,lowest terms,gains,charges. By an AI agent;nothing here is trusted. -/
namespace Go.Proofs.YtpaklfjlbocfcaaGreatDoor
open Go.Av

theorem divisor_s (a b:Int) (ha:S63 a) (hb:S63 b):Sound Tryz.prog 188 [.int .i64 a,.int .i64 b] (.int .i64 (Int.gcd a b)):=by
 refine sound_W f_pulse_divisor (Nat.le_of_ble_eq_true rfl) ?_
 simp only [c_pulse_divisor,vZ,Int.reduceEq,Int.reduceNe,Int.reduceLT,Int.reduceLE,Nat.reduceEqDiff,Nat.reduceAdd,reduceIte,reduceCtorEq,Nat.reduceLT,Nat.reduceLeDiff,Nat.reduceShiftRight,Nat.reduceMod]
 refine W_loop (α:=PSigma fun p:Int × Int=>S63 p.1∧S63 p.2∧Int.gcd p.1 p.2=Int.gcd a b) (fun p=>(envOf [(0,.int .i64 p.1.1),(1,.int .i64 p.1.2)],noStore)) (fun p=>p.1.2.natAbs) ⟨(a,b),ha,hb,rfl⟩ (weakE _ ?_) (fun ⟨p,h1,h2,h3⟩=>?_)
 ·simp only [vZ,Int.reduceEq,Int.reduceNe,Int.reduceLT,Int.reduceLE,Nat.reduceEqDiff,Nat.reduceAdd,reduceIte,reduceCtorEq,Nat.reduceLT,Nat.reduceLeDiff,Nat.reduceShiftRight,Nat.reduceMod]
 ·obtain ⟨x,y⟩:=p
  simp only at h1 h2 h3
  simp only [vZ,Int.reduceEq,Int.reduceNe,Int.reduceLT,Int.reduceLE,Nat.reduceEqDiff,Nat.reduceAdd,reduceIte,reduceCtorEq,Nat.reduceLT,Nat.reduceLeDiff,Nat.reduceShiftRight,Nat.reduceMod]
  refine brB_split (fun h=>?_) (fun h=>?_)
  ·have hy:y ≠ 0:=by simpa using h
   obtain ⟨t1,t2⟩:=tmod_S (a:=x) h2 hy
   simp only [vZ,Int.reduceEq,Int.reduceNe,Int.reduceLT,Int.reduceLE,Nat.reduceEqDiff,Nat.reduceAdd,reduceIte,reduceCtorEq,Nat.reduceLT,Nat.reduceLeDiff,Nat.reduceShiftRight,Nat.reduceMod]
   refine ⟨hy,⟨(y,x.tmod y),h2,t1,(gcd_tmod x y).trans h3⟩,t2,weakE _ ?_⟩
   simp only [vZ,Int.reduceEq,Int.reduceNe,Int.reduceLT,Int.reduceLE,Nat.reduceEqDiff,Nat.reduceAdd,reduceIte,reduceCtorEq,Nat.reduceLT,Nat.reduceLeDiff,Nat.reduceShiftRight,Nat.reduceMod]
  ·have hy:y=0:=by simpa using h
   subst hy
   unfold S63 at h1
   simp only [max_neg,vZ,Int.reduceEq,Int.reduceNe,Int.reduceLT,Int.reduceLE,Nat.reduceEqDiff,Nat.reduceAdd,reduceIte,reduceCtorEq,Nat.reduceLT,Nat.reduceLeDiff,Nat.reduceShiftRight,Nat.reduceMod]
   refine ⟨by (simp only [decide_eq_true_eq,decide_eq_false_iff_not,Bool.not_true,I64,Bool.not_eq_true',Bool.not_eq_false',bne_iff_ne,beq_iff_eq,ne_eq] at *;omega),?_⟩
   rw [← h3];simp [Int.gcd]

theorem pLowest_s (num den:Int) (hn:0≤num) (hn2:num≤9223372036854775807) (hd:0<den) (hd2:den≤9223372036854775807):Sound Tryz.prog 137 [.int .i64 num,.int .i64 den]
  (.tup (if smallF (lowN num den) (lowD num den) then [fracA (lowN num den) (lowD num den),.int .i64 0] else [fracA 0 0,.int .i64 8])):=by
 refine sound_W f_pulse_lowest (Nat.le_of_ble_eq_true rfl) ?_
 have hg:0<Int.gcd num den:=Int.gcd_pos_of_ne_zero_right _ (by omega)
 have hgl:=gcd_S (a:=num) (b:=den) (by unfold S63;omega) (by omega)
 have t1:=tdiv_S (b:=lowG num den) (a:=num) (by unfold S63;omega)
 have t2:=tdiv_S (b:=lowG num den) (a:=den) (by unfold S63;omega)
 have e:lowG num den=(Int.gcd num den:Int):=by unfold lowG;rw [if_neg (by omega)]
 have p1:=(low_pos (n:=num) hd).1
 have p2:=(low_pos (n:=num) hd).2 hn
 have eN:num.tdiv (Int.gcd num den:Int)=lowN num den:=by unfold lowN;rw [e]
 have eD:den.tdiv (Int.gcd num den:Int)=lowD num den:=by unfold lowD;rw [e]
 rw [e] at t1 t2
 rw [eN] at t1
 rw [eD] at t2
 unfold S63 at t1 t2
 simp only [c_pulse_lowest,vZ,Int.reduceEq,Int.reduceNe,Int.reduceLT,Int.reduceLE,Nat.reduceEqDiff,Nat.reduceAdd,reduceIte,reduceCtorEq,Nat.reduceLT,Nat.reduceLeDiff,Nat.reduceShiftRight,Nat.reduceMod]
 refine callS_of (divisor_s num den (by unfold S63;omega) (by unfold S63;omega)) ?_
 simp only [eN,eD,vZ,Int.reduceEq,Int.reduceNe,Int.reduceLT,Int.reduceLE,Nat.reduceEqDiff,Nat.reduceAdd,reduceIte,reduceCtorEq,Nat.reduceLT,Nat.reduceLeDiff,Nat.reduceShiftRight,Nat.reduceMod]
 generalize lowN num den=n at *
 generalize lowD num den=d at *
 have hne:((Int.gcd num den:Nat):Int) ≠ 0:=by omega
 refine ⟨hne,by unfold I64;omega,hne,by unfold I64;omega,?_⟩
 by_cases h1:1000000000<n
 ·have hs:smallF n d=false:=by unfold smallF;rw [decide_eq_false (by omega)];rfl
  simp only [h1,hs,fracA,vZ,Int.reduceEq,Int.reduceNe,Int.reduceLT,Int.reduceLE,Nat.reduceEqDiff,Nat.reduceAdd,reduceIte,reduceCtorEq,Nat.reduceLT,Nat.reduceLeDiff,Nat.reduceShiftRight,Nat.reduceMod]
 ·by_cases h2:1000000000<d
  ·have hs:smallF n d=false:=by unfold smallF;rw [decide_eq_false (p:=1≤d∧d≤1000000000) (by omega)];simp
   simp only [h1,h2,hs,fracA,vZ,Int.reduceEq,Int.reduceNe,Int.reduceLT,Int.reduceLE,Nat.reduceEqDiff,Nat.reduceAdd,reduceIte,reduceCtorEq,Nat.reduceLT,Nat.reduceLeDiff,Nat.reduceShiftRight,Nat.reduceMod]
  ·have hs:smallF n d=true:=by unfold smallF;rw [decide_eq_true (by omega),decide_eq_true (by omega)];rfl
   simp only [h1,h2,hs,fracA,vZ,Int.reduceEq,Int.reduceNe,Int.reduceLT,Int.reduceLE,Nat.reduceEqDiff,Nat.reduceAdd,reduceIte,reduceCtorEq,Nat.reduceLT,Nat.reduceLeDiff,Nat.reduceShiftRight,Nat.reduceMod]

def sumOk (l:List Int):Prop:=∀ i,I64 ((l.take i).sum)
theorem take_sum_succ (l:List Int) (i:Nat) (h:i<l.length):(l.take (i+1)).sum=(l.take i).sum+l[i]:=by
 rw [List.take_succ_eq_append_getElem h,List.sum_append];simp
theorem sum_abs {l:List Int} {m:Int} (hm:0≤m) (h:∀ x ∈ l, -m≤x∧x≤m) : -(l.length * m)≤l.sum∧l.sum≤l.length * m:=by
 induction l with
 | nil=>simp
 | cons x l ih =>
  have h1:=h x List.mem_cons_self
  have h2:=ih fun y hy=>h y (List.mem_cons_of_mem _ hy)
  simp only [List.sum_cons,List.length_cons]
  rw [show ((l.length+1:Nat):Int)=(l.length:Int)+1 by omega,Int.add_mul,Int.one_mul]
  omega
theorem sumOk_of {l:List Int} (hl:l.length≤100) (h:∀ x ∈ l, -1000000000000≤x∧x≤1000000000000):sumOk l:=by
 intro i
 have h1:=sum_abs (l:=l.take i) (m:=1000000000000) (by omega) fun x hx=>h x (List.mem_of_mem_take hx)
 have h2:((l.take i).length:Int)≤100:=by rw [List.length_take];omega
 unfold I64;omega
theorem sum_s (l:List Int) (hl:l.length≤1000000000) (h:sumOk l):Sound Tryz.prog 138 [.sl (ints l)] (.int .i64 l.sum):=by
 refine sound_W f_pulse_sum (Nat.le_of_ble_eq_true rfl) ?_
 simp only [c_pulse_sum,vZ,Int.reduceEq,Int.reduceNe,Int.reduceLT,Int.reduceLE,Nat.reduceEqDiff,Nat.reduceAdd,reduceIte,reduceCtorEq,Nat.reduceLT,Nat.reduceLeDiff,Nat.reduceShiftRight,Nat.reduceMod]
 refine W_loop (t:=.mk) (α:=PSigma fun i:Nat=>i≤l.length∧(True)) (fun ⟨i,_⟩=>((envOf [(3,.int .i64 (l.take i).sum),(6,.sl (ints l)),(7,.int .i64 l.length),(8,.int .i64 i)],stOf []))) (fun i=>l.length - i.1) ⟨0,Nat.zero_le _,?_⟩ ?_ (fun ⟨i,hi,hn⟩=>?_)
 ·trivial
 ·refine weakX [] (of_decide_eq_true rfl) (of_decide_eq_true rfl) ?_
  (simp only [vcW,vZ,Int.reduceEq,Int.reduceNe,Int.reduceLT,Int.reduceLE,Nat.reduceEqDiff,Nat.reduceAdd,reduceIte,reduceCtorEq,Nat.reduceLT,Nat.reduceLeDiff,Nat.reduceShiftRight,Nat.reduceMod])
  (repeat' first | exact trivial | (with_reducible first | exact RnB.fxB (ints_fxB _) | rfl | refine And.intro ?_ ?_) | (with_reducible (first | refine RnB.bb ?_ | refine RnB.nb ?_);simp only [vcW,vZ,Int.reduceEq,Int.reduceNe,Int.reduceLT,Int.reduceLE,Nat.reduceEqDiff,Nat.reduceAdd,reduceIte,reduceCtorEq,Nat.reduceLT,Nat.reduceLeDiff,Nat.reduceShiftRight,Nat.reduceMod]) | (with_reducible first | refine RnB.ii ?_ | refine RnB.app ?_) | (with_reducible refine RnB.fxB ?_;simp only [vcW,vZ,Int.reduceEq,Int.reduceNe,Int.reduceLT,Int.reduceLE,Nat.reduceEqDiff,Nat.reduceAdd,reduceIte,reduceCtorEq,Nat.reduceLT,Nat.reduceLeDiff,Nat.reduceShiftRight,Nat.reduceMod]) | omega)
  all_goals rfl
 ·by_cases h':i<l.length
  ·have h2:(i:Int)<l.length:=by omega
   have hs:=take_sum_succ l i h'
   have hi1:=h (i+1)
   rw [hs] at hi1
   simp only [h2,ints_get l i h',vZ,Int.reduceEq,Int.reduceNe,Int.reduceLT,Int.reduceLE,Nat.reduceEqDiff,Nat.reduceAdd,reduceIte,reduceCtorEq,Nat.reduceLT,Nat.reduceLeDiff,Nat.reduceShiftRight,Nat.reduceMod]
   refine ⟨by omega,hi1,by unfold I64;omega,⟨i+1,h',trivial⟩,by simp only;omega,?_⟩
   refine weakX [] (of_decide_eq_true rfl) (of_decide_eq_true rfl) ?_
   (simp only [hs,vcW,vZ,Int.reduceEq,Int.reduceNe,Int.reduceLT,Int.reduceLE,Nat.reduceEqDiff,Nat.reduceAdd,reduceIte,reduceCtorEq,Nat.reduceLT,Nat.reduceLeDiff,Nat.reduceShiftRight,Nat.reduceMod])
   (repeat' first | exact trivial | (with_reducible first | exact RnB.fxB (ints_fxB _) | rfl | refine And.intro ?_ ?_) | (with_reducible (first | refine RnB.bb ?_ | refine RnB.nb ?_);simp only [vcW,vZ,Int.reduceEq,Int.reduceNe,Int.reduceLT,Int.reduceLE,Nat.reduceEqDiff,Nat.reduceAdd,reduceIte,reduceCtorEq,Nat.reduceLT,Nat.reduceLeDiff,Nat.reduceShiftRight,Nat.reduceMod]) | (with_reducible first | refine RnB.ii ?_ | refine RnB.app ?_) | (with_reducible refine RnB.fxB ?_;simp only [vcW,vZ,Int.reduceEq,Int.reduceNe,Int.reduceLT,Int.reduceLE,Nat.reduceEqDiff,Nat.reduceAdd,reduceIte,reduceCtorEq,Nat.reduceLT,Nat.reduceLeDiff,Nat.reduceShiftRight,Nat.reduceMod]) | omega)
  ·have h2:¬ (i:Int)<l.length:=by omega
   have he:i=l.length:=by omega
   subst he
   simp only [h2,List.take_length,vZ,Int.reduceEq,Int.reduceNe,Int.reduceLT,Int.reduceLE,Nat.reduceEqDiff,Nat.reduceAdd,reduceIte,reduceCtorEq,Nat.reduceLT,Nat.reduceLeDiff,Nat.reduceShiftRight,Nat.reduceMod]
theorem Sum_s (l:List Int) (hl:l.length≤1000000000) (h:sumOk l):Sound Tryz.prog 68 [.sl (ints l)] (.int .i64 l.sum):=by
 refine sound_W f_ref02_Sum (Nat.le_of_ble_eq_true rfl) ?_
 simp only [c_ref02_Sum,vZ,Int.reduceEq,Int.reduceNe,Int.reduceLT,Int.reduceLE,Nat.reduceEqDiff,Nat.reduceAdd,reduceIte,reduceCtorEq,Nat.reduceLT,Nat.reduceLeDiff,Nat.reduceShiftRight,Nat.reduceMod]
 refine W_loop (t:=.mk) (α:=PSigma fun i:Nat=>i≤l.length∧(True)) (fun ⟨i,_⟩=>((envOf [(0,.sl (ints l)),(3,.int .i64 (l.take i).sum),(4,.int .i64 i)],stOf []))) (fun i=>l.length - i.1) ⟨0,Nat.zero_le _,?_⟩ ?_ (fun ⟨i,hi,hn⟩=>?_)
 ·trivial
 ·refine weakX [] (of_decide_eq_true rfl) (of_decide_eq_true rfl) ?_
  (simp only [vcW,vZ,Int.reduceEq,Int.reduceNe,Int.reduceLT,Int.reduceLE,Nat.reduceEqDiff,Nat.reduceAdd,reduceIte,reduceCtorEq,Nat.reduceLT,Nat.reduceLeDiff,Nat.reduceShiftRight,Nat.reduceMod])
  (repeat' first | exact trivial | (with_reducible first | exact RnB.fxB (ints_fxB _) | rfl | refine And.intro ?_ ?_) | (with_reducible (first | refine RnB.bb ?_ | refine RnB.nb ?_);simp only [vcW,vZ,Int.reduceEq,Int.reduceNe,Int.reduceLT,Int.reduceLE,Nat.reduceEqDiff,Nat.reduceAdd,reduceIte,reduceCtorEq,Nat.reduceLT,Nat.reduceLeDiff,Nat.reduceShiftRight,Nat.reduceMod]) | (with_reducible first | refine RnB.ii ?_ | refine RnB.app ?_) | (with_reducible refine RnB.fxB ?_;simp only [vcW,vZ,Int.reduceEq,Int.reduceNe,Int.reduceLT,Int.reduceLE,Nat.reduceEqDiff,Nat.reduceAdd,reduceIte,reduceCtorEq,Nat.reduceLT,Nat.reduceLeDiff,Nat.reduceShiftRight,Nat.reduceMod]) | omega)
  all_goals rfl
 ·by_cases h':i<l.length
  ·have h2:(i:Int)<l.length:=by omega
   have hs:=take_sum_succ l i h'
   have hi1:=h (i+1)
   rw [hs] at hi1
   simp only [h2,ints_get l i h',vZ,Int.reduceEq,Int.reduceNe,Int.reduceLT,Int.reduceLE,Nat.reduceEqDiff,Nat.reduceAdd,reduceIte,reduceCtorEq,Nat.reduceLT,Nat.reduceLeDiff,Nat.reduceShiftRight,Nat.reduceMod]
   refine ⟨by omega,hi1,by unfold I64;omega,⟨i+1,h',trivial⟩,by simp only;omega,?_⟩
   refine weakX [] (of_decide_eq_true rfl) (of_decide_eq_true rfl) ?_
   (simp only [hs,vcW,vZ,Int.reduceEq,Int.reduceNe,Int.reduceLT,Int.reduceLE,Nat.reduceEqDiff,Nat.reduceAdd,reduceIte,reduceCtorEq,Nat.reduceLT,Nat.reduceLeDiff,Nat.reduceShiftRight,Nat.reduceMod])
   (repeat' first | exact trivial | (with_reducible first | exact RnB.fxB (ints_fxB _) | rfl | refine And.intro ?_ ?_) | (with_reducible (first | refine RnB.bb ?_ | refine RnB.nb ?_);simp only [vcW,vZ,Int.reduceEq,Int.reduceNe,Int.reduceLT,Int.reduceLE,Nat.reduceEqDiff,Nat.reduceAdd,reduceIte,reduceCtorEq,Nat.reduceLT,Nat.reduceLeDiff,Nat.reduceShiftRight,Nat.reduceMod]) | (with_reducible first | refine RnB.ii ?_ | refine RnB.app ?_) | (with_reducible refine RnB.fxB ?_;simp only [vcW,vZ,Int.reduceEq,Int.reduceNe,Int.reduceLT,Int.reduceLE,Nat.reduceEqDiff,Nat.reduceAdd,reduceIte,reduceCtorEq,Nat.reduceLT,Nat.reduceLeDiff,Nat.reduceShiftRight,Nat.reduceMod]) | omega)
  ·have h2:¬ (i:Int)<l.length:=by omega
   have he:i=l.length:=by omega
   subst he
   simp only [h2,List.take_length,vZ,Int.reduceEq,Int.reduceNe,Int.reduceLT,Int.reduceLE,Nat.reduceEqDiff,Nat.reduceAdd,reduceIte,reduceCtorEq,Nat.reduceLT,Nat.reduceLeDiff,Nat.reduceShiftRight,Nat.reduceMod]

theorem errs4 (a b c d:Int):firstErr [a,b,c,d]=if a ≠ 0 then a else if b ≠ 0 then b else if c ≠ 0 then c else d:=by
 unfold firstErr
 by_cases ha:a=0 <;> by_cases hb:b=0 <;> by_cases hc:c=0 <;> by_cases hd:d=0 <;> simp [ha,hb,hc,hd]
theorem first4_s (a b c d:Int):Sound Tryz.prog 119 [.sl [.int .i64 a,.int .i64 b,.int .i64 c,.int .i64 d]] (.int .i64 (if a ≠ 0 then a else if b ≠ 0 then b else if c ≠ 0 then c else d)):=by
 have h:=first_s [a,b,c,d] (by simp)
 rw [errs4] at h
 exact h

end Go.Proofs.YtpaklfjlbocfcaaGreatDoor

/- Contracts: fits,charges,photons. By an AI agent;nothing here is trusted. -/
namespace Go.Proofs.YtpaklfjlbocfcaaGreatDoor
open Go.Av

def fitA (den:Int) (parts:List Int):AV:=.agg [.int .i64 den,.sl (ints parts)]
def fE (den:Int) (parts:List Int):Int:=if 1≤den∧den≤1000000000000 then (if 5<parts.length then 8 else if parts.all (fun n=>decide (0≤n∧n≤1000000000000)) then 0 else 2) else 2
theorem fE_ok {den:Int} {parts:List Int} (h:fE den parts=0):(1≤den∧den≤1000000000000)∧parts.length≤5∧∀ x ∈ parts,0≤x∧x≤1000000000000:=by
 unfold fE at h
 split at h
 ·split at h
  ·cases h
  ·split at h
   ·rename_i h1 h2 h3
    exact ⟨h1,by omega,fun x hx=>by simpa using List.all_eq_true.1 h3 x hx⟩
   ·cases h
 ·cases h
theorem fitErr_1_s (n:Int):Sound Tryz.prog 160 [.int .i64 n] (.bool (!decide (0≤n∧n≤1000000000000))):=by
 refine sound_W f_pulse_fitErr_1 (Nat.le_of_ble_eq_true rfl) ?_
 simp only [c_pulse_fitErr_1,vZ,Int.reduceEq,Int.reduceNe,Int.reduceLT,Int.reduceLE,Nat.reduceEqDiff,Nat.reduceAdd,reduceIte,reduceCtorEq,Nat.reduceLT,Nat.reduceLeDiff,Nat.reduceShiftRight,Nat.reduceMod]
 refine callS_of (within_s _ _ _) ?_
 simp only [vZ,Int.reduceEq,Int.reduceNe,Int.reduceLT,Int.reduceLE,Nat.reduceEqDiff,Nat.reduceAdd,reduceIte,reduceCtorEq,Nat.reduceLT,Nat.reduceLeDiff,Nat.reduceShiftRight,Nat.reduceMod]
theorem fitErr_s (den:Int) (parts:List Int) (hl:parts.length<4000000000000000000):Sound Tryz.prog 93 [fitA den parts] (.int .i64 (fE den parts)):=by
 refine sound_W f_pulse_fitErr (Nat.le_of_ble_eq_true rfl) ?_
 simp only [c_pulse_fitErr,fitA,vZ,Int.reduceEq,Int.reduceNe,Int.reduceLT,Int.reduceLE,Nat.reduceEqDiff,Nat.reduceAdd,reduceIte,reduceCtorEq,Nat.reduceLT,Nat.reduceLeDiff,Nat.reduceShiftRight,Nat.reduceMod]
 refine callS_of (contFunc_int_s parts _ [] (fun n=>!decide (0≤n∧n≤1000000000000)) hl (by simp) (fun x _=>fitErr_1_s x)) ?_
 simp only [vZ,Int.reduceEq,Int.reduceNe,Int.reduceLT,Int.reduceLE,Nat.reduceEqDiff,Nat.reduceAdd,reduceIte,reduceCtorEq,Nat.reduceLT,Nat.reduceLeDiff,Nat.reduceShiftRight,Nat.reduceMod]
 refine callS_of (within_s _ _ _) ?_
 simp only [vZ,Int.reduceEq,Int.reduceNe,Int.reduceLT,Int.reduceLE,Nat.reduceEqDiff,Nat.reduceAdd,reduceIte,reduceCtorEq,Nat.reduceLT,Nat.reduceLeDiff,Nat.reduceShiftRight,Nat.reduceMod]
 refine callS_of (unless_s _ _) ?_
 simp only [vZ,Int.reduceEq,Int.reduceNe,Int.reduceLT,Int.reduceLE,Nat.reduceEqDiff,Nat.reduceAdd,reduceIte,reduceCtorEq,Nat.reduceLT,Nat.reduceLeDiff,Nat.reduceShiftRight,Nat.reduceMod]
 refine callS_of (unless_s _ _) ?_
 simp only [vZ,Int.reduceEq,Int.reduceNe,Int.reduceLT,Int.reduceLE,Nat.reduceEqDiff,Nat.reduceAdd,reduceIte,reduceCtorEq,Nat.reduceLT,Nat.reduceLeDiff,Nat.reduceShiftRight,Nat.reduceMod]
 refine callS_of (unless_s _ _) ?_
 simp only [vZ,Int.reduceEq,Int.reduceNe,Int.reduceLT,Int.reduceLE,Nat.reduceEqDiff,Nat.reduceAdd,reduceIte,reduceCtorEq,Nat.reduceLT,Nat.reduceLeDiff,Nat.reduceShiftRight,Nat.reduceMod]
 refine callS_of (first3_s _ _ _) ?_
 simp only [vZ,Int.reduceEq,Int.reduceNe,Int.reduceLT,Int.reduceLE,Nat.reduceEqDiff,Nat.reduceAdd,reduceIte,reduceCtorEq,Nat.reduceLT,Nat.reduceLeDiff,Nat.reduceShiftRight,Nat.reduceMod]
 have hall:(!parts.any fun n=>!decide (0≤n∧n≤1000000000000))=parts.all fun n=>decide (0≤n∧n≤1000000000000):=by rw [List.not_any_eq_all_not];simp only [Bool.not_not]
 rw [hall]
 refine ⟨by intro _ k hk;simp [refsL,refs,upd] at hk;subst hk;simp [upd],?_⟩
 unfold fE
 congr 1
 by_cases h1:1≤den∧den≤1000000000000
 ·by_cases h2:5<parts.length
  ·have h2':¬ (parts.length:Int)≤5:=by omega
   simp only [h1,h2,h2',and_self,decide_true,decide_false,if_true,if_false,ne_eq,not_true_eq_false,Bool.false_eq_true,not_false_eq_true,(by decide:¬ (8:Int)=0)]
  ·have h2':(parts.length:Int)≤5:=by omega
   simp only [h1,h2,h2',and_self,decide_true,decide_false,if_true,if_false,ne_eq,not_true_eq_false,Bool.false_eq_true,not_false_eq_true]
 ·simp only [h1,decide_true,decide_false,if_true,if_false,ne_eq,not_true_eq_false,Bool.false_eq_true,not_false_eq_true,(by decide:¬ (2:Int)=0)]
theorem CopyFit_s (den:Int) (parts:List Int) (hl:parts.length≤1000000000):Sound Tryz.prog 26 [fitA den parts] (fitA den parts):=by
 refine sound_W f_ref02_CopyFit (Nat.le_of_ble_eq_true rfl) ?_
 simp only [c_ref02_CopyFit,fitA,vZ,Int.reduceEq,Int.reduceNe,Int.reduceLT,Int.reduceLE,Nat.reduceEqDiff,Nat.reduceAdd,reduceIte,reduceCtorEq,Nat.reduceLT,Nat.reduceLeDiff,Nat.reduceShiftRight,Nat.reduceMod]
 refine callS_of (CopyInts_s parts hl) ?_
 simp only [vZ,Int.reduceEq,Int.reduceNe,Int.reduceLT,Int.reduceLE,Nat.reduceEqDiff,Nat.reduceAdd,reduceIte,reduceCtorEq,Nat.reduceLT,Nat.reduceLeDiff,Nat.reduceShiftRight,Nat.reduceMod]

def chgA (den:Int) (parts:List Int):List AV:=if fE den parts=0 then (if smallF (lowN parts.sum den) (lowD parts.sum den) then [fracA (lowN parts.sum den) (lowD parts.sum den),.int .i64 0] else [fracA 0 0,.int .i64 8]) else [fracA 0 0,.int .i64 (fE den parts)]
theorem parts_sum {den:Int} {parts:List Int} (h:fE den parts=0):(0≤parts.sum∧parts.sum≤5000000000000)∧sumOk parts:=by
 obtain ⟨h1,h2,h3⟩:=fE_ok h
 have:=sum_le h3
 exact ⟨by omega,sumOk_of (by omega) fun x hx=>by have:=h3 x hx;omega⟩
theorem ChargeOf_s (den:Int) (parts:List Int) (hl:parts.length<4000000000000000000):Sound Tryz.prog 64 [fitA den parts] (.tup (chgA den parts)):=by
 refine sound_W f_pulse_ChargeOf (Nat.le_of_ble_eq_true rfl) ?_
 have hF:=fitErr_s den parts hl
 unfold fitA at hF
 simp only [c_pulse_ChargeOf,fitA,vZ,Int.reduceEq,Int.reduceNe,Int.reduceLT,Int.reduceLE,Nat.reduceEqDiff,Nat.reduceAdd,reduceIte,reduceCtorEq,Nat.reduceLT,Nat.reduceLeDiff,Nat.reduceShiftRight,Nat.reduceMod]
 refine callS_of hF ?_
 unfold chgA
 by_cases hE:fE den parts=0
 ·obtain ⟨h1,h2,h3⟩:=fE_ok hE
  obtain ⟨s1,s2⟩:=parts_sum hE
  have hL:=pLowest_s parts.sum den s1.1 (by omega) (by omega) (by omega)
  rw [if_pos hE]
  simp only [hE,vZ,Int.reduceEq,Int.reduceNe,Int.reduceLT,Int.reduceLE,Nat.reduceEqDiff,Nat.reduceAdd,reduceIte,reduceCtorEq,Nat.reduceLT,Nat.reduceLeDiff,Nat.reduceShiftRight,Nat.reduceMod]
  refine callS_of (sum_s parts (by omega) s2) ?_
  simp only [vZ,Int.reduceEq,Int.reduceNe,Int.reduceLT,Int.reduceLE,Nat.reduceEqDiff,Nat.reduceAdd,reduceIte,reduceCtorEq,Nat.reduceLT,Nat.reduceLeDiff,Nat.reduceShiftRight,Nat.reduceMod]
  refine callS_of hL ?_
  cases hsm:smallF (lowN parts.sum den) (lowD parts.sum den) with
  | true=>simp only [fracA,vZ,Int.reduceEq,Int.reduceNe,Int.reduceLT,Int.reduceLE,Nat.reduceEqDiff,Nat.reduceAdd,reduceIte,reduceCtorEq,Nat.reduceLT,Nat.reduceLeDiff,Nat.reduceShiftRight,Nat.reduceMod]
  | false=>simp only [fracA,vZ,Int.reduceEq,Int.reduceNe,Int.reduceLT,Int.reduceLE,Nat.reduceEqDiff,Nat.reduceAdd,reduceIte,reduceCtorEq,Nat.reduceLT,Nat.reduceLeDiff,Nat.reduceShiftRight,Nat.reduceMod]
 ·rw [if_neg hE]
  simp only [hE,fracA,vZ,Int.reduceEq,Int.reduceNe,Int.reduceLT,Int.reduceLE,Nat.reduceEqDiff,Nat.reduceAdd,reduceIte,reduceCtorEq,Nat.reduceLT,Nat.reduceLeDiff,Nat.reduceShiftRight,Nat.reduceMod]

def photL (den single:Int) (parts:List Int):List Int:=parts.map fun n=>(2 * n+den * single) / (2 * (den * single))
def phE (den single:Int) (parts:List Int):Int:=if fE den parts ≠ 0 then fE den parts else if 1≤single∧single≤1000 then 0 else 2
def phO (den single:Int) (parts:List Int):List Int:=if phE den single parts=0 then photL den single parts else []
theorem PhotonsOf_s (den single:Int) (parts:List Int) (hl:parts.length<4000000000000000000):Sound Tryz.prog 65 [fitA den parts,.int .i64 single] (.tup [.sl (ints (phO den single parts)),.int .i64 (phE den single parts)]):=by
 refine sound_W f_pulse_PhotonsOf (Nat.le_of_ble_eq_true rfl) ?_
 have hF:=fitErr_s den parts hl
 unfold fitA at hF
 have hmax:=maxLen_big
 simp only [c_pulse_PhotonsOf,fitA,vZ,Int.reduceEq,Int.reduceNe,Int.reduceLT,Int.reduceLE,Nat.reduceEqDiff,Nat.reduceAdd,reduceIte,reduceCtorEq,Nat.reduceLT,Nat.reduceLeDiff,Nat.reduceShiftRight,Nat.reduceMod]
 refine callS_of hF ?_
 simp only [vZ,Int.reduceEq,Int.reduceNe,Int.reduceLT,Int.reduceLE,Nat.reduceEqDiff,Nat.reduceAdd,reduceIte,reduceCtorEq,Nat.reduceLT,Nat.reduceLeDiff,Nat.reduceShiftRight,Nat.reduceMod]
 refine callS_of (within_s _ _ _) ?_
 simp only [vZ,Int.reduceEq,Int.reduceNe,Int.reduceLT,Int.reduceLE,Nat.reduceEqDiff,Nat.reduceAdd,reduceIte,reduceCtorEq,Nat.reduceLT,Nat.reduceLeDiff,Nat.reduceShiftRight,Nat.reduceMod]
 refine callS_of (unless_s _ _) ?_
 simp only [vZ,Int.reduceEq,Int.reduceNe,Int.reduceLT,Int.reduceLE,Nat.reduceEqDiff,Nat.reduceAdd,reduceIte,reduceCtorEq,Nat.reduceLT,Nat.reduceLeDiff,Nat.reduceShiftRight,Nat.reduceMod]
 refine callS_of (first2_s _ _) ?_
 have he:(if fE den parts ≠ 0 then fE den parts else if decide (1≤single∧single≤1000)=true then 0 else 2)=phE den single parts:=by
  unfold phE;simp only [decide_eq_true_eq]
 rw [he]
 by_cases h0:phE den single parts=0
 ·have hok:fE den parts=0∧(1≤single∧single≤1000):=by
   unfold phE at h0
   split at h0
   ·contradiction
   ·rename_i hq
    split at h0
    ·exact ⟨by simpa using hq,by assumption⟩
    ·cases h0
  obtain ⟨h1,h2,h3⟩:=fE_ok hok.1
  have hs:=hok.2
  have hO:phO den single parts=photL den single parts:=by unfold phO;rw [if_pos h0]
  have hds:0<den * single∧den * single≤1000000000000 * 1000:=⟨Int.mul_pos (by omega) (by omega),Int.mul_le_mul h1.2 hs.2 (by omega) (by omega)⟩
  rw [hO,h0]
  simp only [vZ,Int.reduceEq,Int.reduceNe,Int.reduceLT,Int.reduceLE,Nat.reduceEqDiff,Nat.reduceAdd,reduceIte,reduceCtorEq,Nat.reduceLT,Nat.reduceLeDiff,Nat.reduceShiftRight,Nat.reduceMod]
  refine W_loop (t:=.mk) (α:=PSigma fun i:Nat=>i≤parts.length) (fun ⟨i,_⟩=>(envOf [(1,.int .i64 single),(2,.ptr 2 0 0),(7,.buf 100 i),(22,.sl (ints parts)),(23,.int .i64 parts.length),(24,.int .i64 i)],stOf [(2,⟨47,2,[.agg [.int .i64 den,.sl (ints parts)]]⟩),(100,⟨3,1,ints (photL den single (parts.take i))⟩)])) (fun p=>parts.length - p.1) ⟨0,Nat.zero_le _⟩ ?_ (fun ⟨i,hi⟩=>?_)
  ·have z:ints (photL den single [])=[]:=rfl
   refine weakX [(100,none)] (of_decide_eq_true rfl) (of_decide_eq_true rfl) ?_
   (simp only [z,vcW,vZ,Int.reduceEq,Int.reduceNe,Int.reduceLT,Int.reduceLE,Nat.reduceEqDiff,Nat.reduceAdd,reduceIte,reduceCtorEq,Nat.reduceLT,Nat.reduceLeDiff,Nat.reduceShiftRight,Nat.reduceMod])
   (repeat' first | exact trivial | (with_reducible first | exact RnB.fxB (ints_fxB _) | rfl | refine And.intro ?_ ?_) | (with_reducible (first | refine RnB.bb ?_ | refine RnB.nb ?_);simp only [vcW,vZ,Int.reduceEq,Int.reduceNe,Int.reduceLT,Int.reduceLE,Nat.reduceEqDiff,Nat.reduceAdd,reduceIte,reduceCtorEq,Nat.reduceLT,Nat.reduceLeDiff,Nat.reduceShiftRight,Nat.reduceMod]) | (with_reducible first | refine RnB.ii ?_ | refine RnB.app ?_) | (with_reducible refine RnB.fxB ?_;simp only [vcW,vZ,Int.reduceEq,Int.reduceNe,Int.reduceLT,Int.reduceLE,Nat.reduceEqDiff,Nat.reduceAdd,reduceIte,reduceCtorEq,Nat.reduceLT,Nat.reduceLeDiff,Nat.reduceShiftRight,Nat.reduceMod]) | omega)
  ·by_cases h':i<parts.length
   ·have h5:(i:Int)<parts.length:=by omega
    have hx:=h3 parts[i] (List.getElem_mem h')
    have hia:ints (photL den single (parts.take (i+1)))=ints (photL den single (parts.take i)) ++ [.int .i64 ((2 * parts[i]+den * single) / (2 * (den * single)))]:=by
     unfold photL
     rw [List.take_succ_eq_append_getElem h',List.map_append,ints_append];rfl
    have hln:(ints (photL den single (parts.take i))).length=i:=by unfold photL;rw [ints_length,List.length_map,List.length_take];omega
    have hq:=photon_eq hx.1 hds.1
    have hq1:0≤(2 * parts[i]+den * single) / (2 * (den * single)):=Int.ediv_nonneg (by omega) (by omega)
    have hq2:(2 * parts[i]+den * single) / (2 * (den * single))≤2 * parts[i]+den * single:=Int.ediv_le_self _ (by omega)
    generalize hds2:den * single=ds at *
    generalize hqq:(2 * parts[i]+ds) / (2 * ds)=q at *
    simp only [h5,ints_get parts i h',hln,hds2,hq,vZ,Int.reduceEq,Int.reduceNe,Int.reduceLT,Int.reduceLE,Nat.reduceEqDiff,Nat.reduceAdd,reduceIte,reduceCtorEq,Nat.reduceLT,Nat.reduceLeDiff,Nat.reduceShiftRight,Nat.reduceMod]
    (repeat (with_reducible refine And.intro ?_ ?_;focus (first | omega | (unfold I64;omega))))
    refine ⟨⟨i+1,h'⟩,by simp only;omega,?_⟩
    refine weakX [(100,some 41)] (of_decide_eq_true rfl) (of_decide_eq_true rfl) ?_
    (simp only [hia,hln,vcW,vZ,Int.reduceEq,Int.reduceNe,Int.reduceLT,Int.reduceLE,Nat.reduceEqDiff,Nat.reduceAdd,reduceIte,reduceCtorEq,Nat.reduceLT,Nat.reduceLeDiff,Nat.reduceShiftRight,Nat.reduceMod])
    (repeat' first | exact trivial | (with_reducible first | exact RnB.fxB (ints_fxB _) | rfl | refine And.intro ?_ ?_) | (with_reducible (first | refine RnB.bb ?_ | refine RnB.nb ?_);simp only [vcW,vZ,Int.reduceEq,Int.reduceNe,Int.reduceLT,Int.reduceLE,Nat.reduceEqDiff,Nat.reduceAdd,reduceIte,reduceCtorEq,Nat.reduceLT,Nat.reduceLeDiff,Nat.reduceShiftRight,Nat.reduceMod]) | (with_reducible first | refine RnB.ii ?_ | refine RnB.app ?_) | (with_reducible refine RnB.fxB ?_;simp only [vcW,vZ,Int.reduceEq,Int.reduceNe,Int.reduceLT,Int.reduceLE,Nat.reduceEqDiff,Nat.reduceAdd,reduceIte,reduceCtorEq,Nat.reduceLT,Nat.reduceLeDiff,Nat.reduceShiftRight,Nat.reduceMod]) | omega)
    all_goals first | exact hia.symm | exact RnB.fxB (by rw [← hia];exact ints_fxB _) | (rw [ints_append];rfl) | skip
   ·have h5:¬ (i:Int)<parts.length:=by omega
    have hin:i=parts.length:=by omega
    subst hin
    simp only [h5,List.take_length,vZ,Int.reduceEq,Int.reduceNe,Int.reduceLT,Int.reduceLE,Nat.reduceEqDiff,Nat.reduceAdd,reduceIte,reduceCtorEq,Nat.reduceLT,Nat.reduceLeDiff,Nat.reduceShiftRight,Nat.reduceMod]
    rw [borB_good _ _ _ _ _ (by unfold photL;rw [ints_length,List.length_map]) (ints_fx _)]
 ·have hO:phO den single parts=[]:=by unfold phO;rw [if_neg h0]
  simp only [h0,hO,vZ,Int.reduceEq,Int.reduceNe,Int.reduceLT,Int.reduceLE,Nat.reduceEqDiff,Nat.reduceAdd,reduceIte,reduceCtorEq,Nat.reduceLT,Nat.reduceLeDiff,Nat.reduceShiftRight,Nat.reduceMod]
  rfl
end Go.Proofs.YtpaklfjlbocfcaaGreatDoor

/- Contracts: samples,droops,pedestals. By an AI agent;nothing here is trusted. -/
namespace Go.Proofs.YtpaklfjlbocfcaaGreatDoor
open Go.Av

theorem div_abs {s b M:Int} (hb:1≤b) (hM:0≤M) (h : -M≤s∧s≤M) : -M≤s / b∧s / b≤M:=by
 constructor
 ·rw [Int.le_ediv_iff_mul_le (by omega)]
  have:=Int.mul_le_mul_of_nonneg_left hb hM
  rw [Int.neg_mul];omega
 ·have:s / b<M+1:=by
   rw [Int.ediv_lt_iff_lt_mul (by omega)]
   have:=Int.mul_le_mul_of_nonneg_left hb (show 0≤M+1 by omega)
   omega
  omega
theorem mul_abs {s k M K:Int} (hk:0≤k∧k≤K) (hM:0≤M) (h : -M≤s∧s≤M) : -(M * K)≤s * k∧s * k≤M * K:=by
 have h1:s * k≤M * k:=Int.mul_le_mul_of_nonneg_right h.2 hk.1
 have h2 : -M * k≤s * k:=Int.mul_le_mul_of_nonneg_right h.1 hk.1
 have h3:M * k≤M * K:=Int.mul_le_mul_of_nonneg_left hk.2 hM
 rw [Int.neg_mul] at h2
 omega
theorem pfloor_s (n by_:Int) (hn:I64 n) (hb:0<by_):Sound Tryz.prog 174 [.int .i64 n,.int .i64 by_] (.int .i64 (n / by_)):=by
 refine sound_W f_pulse_floor (Nat.le_of_ble_eq_true rfl) ?_
 obtain ⟨h1,h2,h3⟩:=tdiv_I64 hn hb
 have h0:=tdiv_floor n by_ hb
 simp only [c_pulse_floor,vcC,Int.reduceEq,Int.reduceNe,Int.reduceLT,Int.reduceLE,Nat.reduceEqDiff,Nat.reduceAdd,reduceIte,reduceCtorEq,Nat.reduceLT,Nat.reduceLeDiff,eq_self,vcP]
 refine ⟨by omega,by (simp only [decide_eq_true_eq,decide_eq_false_iff_not,Bool.not_true,I64,Bool.not_eq_true',Bool.not_eq_false',bne_iff_ne,beq_iff_eq,ne_eq] at *;omega),by omega,?_⟩
 refine brB_split (fun h=>?_) (fun h=>?_)
 ·have h':n.tmod by_<0:=by simpa using h
  rw [if_pos h'] at h0
  simp only [h,vcC,Int.reduceEq,Int.reduceNe,Int.reduceLT,Int.reduceLE,Nat.reduceEqDiff,Nat.reduceAdd,reduceIte,reduceCtorEq,Nat.reduceLT,Nat.reduceLeDiff,eq_self,vcP]
  refine ⟨by have:=h3 h';(simp only [decide_eq_true_eq,decide_eq_false_iff_not,Bool.not_true,I64,Bool.not_eq_true',Bool.not_eq_false',bne_iff_ne,beq_iff_eq,ne_eq] at *;omega),?_⟩
  rw [h0]
 ·have h':¬ n.tmod by_<0:=by simpa using h
  rw [if_neg h'] at h0
  simp only [h,vcC,Int.reduceEq,Int.reduceNe,Int.reduceLT,Int.reduceLE,Nat.reduceEqDiff,Nat.reduceAdd,reduceIte,reduceCtorEq,Nat.reduceLT,Nat.reduceLeDiff,eq_self,vcP]
  rw [h0]
theorem samplesErr_1_s (n:Int):Sound Tryz.prog 201 [.int .i64 n] (.bool (!smp n)):=by
 refine sound_W f_pulse_samplesErr_1 (Nat.le_of_ble_eq_true rfl) ?_
 simp only [c_pulse_samplesErr_1,vZ,Int.reduceEq,Int.reduceNe,Int.reduceLT,Int.reduceLE,Nat.reduceEqDiff,Nat.reduceAdd,reduceIte,reduceCtorEq,Nat.reduceLT,Nat.reduceLeDiff,Nat.reduceShiftRight,Nat.reduceMod]
 refine callS_of (isSample_s _) ?_
 simp only [vZ,Int.reduceEq,Int.reduceNe,Int.reduceLT,Int.reduceLE,Nat.reduceEqDiff,Nat.reduceAdd,reduceIte,reduceCtorEq,Nat.reduceLT,Nat.reduceLeDiff,Nat.reduceShiftRight,Nat.reduceMod]
theorem not_all (l:List Int):(l.any fun n=>!smp n)=!l.all smp:=by rw [← List.not_all_eq_any_not]
theorem samplesErr_s (l:List Int) (hl:l.length<4000000000000000000):Sound Tryz.prog 159 [.sl (ints l)] (.tup [.int .i64 (smI l),.int .i64 (smE l)]):=by
 refine sound_W f_pulse_samplesErr (Nat.le_of_ble_eq_true rfl) ?_
 have hU:=unless_s
 simp only [c_pulse_samplesErr,vZ,Int.reduceEq,Int.reduceNe,Int.reduceLT,Int.reduceLE,Nat.reduceEqDiff,Nat.reduceAdd,reduceIte,reduceCtorEq,Nat.reduceLT,Nat.reduceLeDiff,Nat.reduceShiftRight,Nat.reduceMod]
 refine callS_of (unless_s _ _) ?_
 simp only [vZ,Int.reduceEq,Int.reduceNe,Int.reduceLT,Int.reduceLE,Nat.reduceEqDiff,Nat.reduceAdd,reduceIte,reduceCtorEq,Nat.reduceLT,Nat.reduceLeDiff,Nat.reduceShiftRight,Nat.reduceMod]
 refine callS_of (unless_s _ _) ?_
 simp only [vZ,Int.reduceEq,Int.reduceNe,Int.reduceLT,Int.reduceLE,Nat.reduceEqDiff,Nat.reduceAdd,reduceIte,reduceCtorEq,Nat.reduceLT,Nat.reduceLeDiff,Nat.reduceShiftRight,Nat.reduceMod]
 refine callS_of (first2_s _ _) ?_
 by_cases h0:l.length=0
 ·have h0':¬ (0:Int)<l.length:=by omega
  have he:smE l=10:=by unfold smE;rw [if_pos h0]
  have hi:smI l=0:=by unfold smI;rw [if_neg (by rw [he];decide)]
  simp only [h0',he,hi,vZ,Int.reduceEq,Int.reduceNe,Int.reduceLT,Int.reduceLE,Nat.reduceEqDiff,Nat.reduceAdd,reduceIte,reduceCtorEq,Nat.reduceLT,Nat.reduceLeDiff,Nat.reduceShiftRight,Nat.reduceMod]
 have h0':(0:Int)<l.length:=by omega
 by_cases h1:24<l.length
 ·have h1':¬ (l.length:Int)≤24:=by omega
  have he:smE l=8:=by unfold smE;rw [if_neg h0,if_pos h1]
  have hi:smI l=0:=by unfold smI;rw [if_neg (by rw [he];decide)]
  simp only [h0',h1',he,hi,vZ,Int.reduceEq,Int.reduceNe,Int.reduceLT,Int.reduceLE,Nat.reduceEqDiff,Nat.reduceAdd,reduceIte,reduceCtorEq,Nat.reduceLT,Nat.reduceLeDiff,Nat.reduceShiftRight,Nat.reduceMod]
 have h1':(l.length:Int)≤24:=by omega
 have hx:=idxOf_any l (fun n=>!smp n)
 rw [not_all] at hx
 simp only [h0',h1',vZ,Int.reduceEq,Int.reduceNe,Int.reduceLT,Int.reduceLE,Nat.reduceEqDiff,Nat.reduceAdd,reduceIte,reduceCtorEq,Nat.reduceLT,Nat.reduceLeDiff,Nat.reduceShiftRight,Nat.reduceMod]
 refine callS_of (idxFunc_int_s l _ [] (fun n=>!smp n) hl (by simp) (fun x _=>samplesErr_1_s x)) ?_
 cases hall:l.all smp with
 | true =>
  rw [hall] at hx
  have hx':¬ 0≤idxOf l (fun n=>!smp n):=of_decide_eq_false hx
  have he:smE l=0:=by unfold smE;rw [if_neg h0,if_neg h1,if_pos hall]
  have hi:smI l=0:=by unfold smI;rw [if_neg (by rw [he];decide)]
  simp only [hx',he,hi,vZ,Int.reduceEq,Int.reduceNe,Int.reduceLT,Int.reduceLE,Nat.reduceEqDiff,Nat.reduceAdd,reduceIte,reduceCtorEq,Nat.reduceLT,Nat.reduceLeDiff,Nat.reduceShiftRight,Nat.reduceMod]
 | false =>
  rw [hall] at hx
  have hx':0≤idxOf l (fun n=>!smp n):=of_decide_eq_true hx
  have he:smE l=2:=by unfold smE;rw [if_neg h0,if_neg h1,if_neg (by rw [hall];decide)]
  have hi:smI l=idxOf l (fun n=>!smp n):=by unfold smI;rw [if_pos he]
  simp only [hx',he,hi,vZ,Int.reduceEq,Int.reduceNe,Int.reduceLT,Int.reduceLE,Nat.reduceEqDiff,Nat.reduceAdd,reduceIte,reduceCtorEq,Nat.reduceLT,Nat.reduceLeDiff,Nat.reduceShiftRight,Nat.reduceMod]
theorem sampled_s (l:List Int) (hl:l.length<4000000000000000000):Sound Tryz.prog 92 [.sl (ints l)] (.int .i64 (smE l)):=by
 refine sound_W f_pulse_sampled (Nat.le_of_ble_eq_true rfl) ?_
 simp only [c_pulse_sampled,vZ,Int.reduceEq,Int.reduceNe,Int.reduceLT,Int.reduceLE,Nat.reduceEqDiff,Nat.reduceAdd,reduceIte,reduceCtorEq,Nat.reduceLT,Nat.reduceLeDiff,Nat.reduceShiftRight,Nat.reduceMod]
 refine callS_of (samplesErr_s l hl) ?_
 simp only [vZ,Int.reduceEq,Int.reduceNe,Int.reduceLT,Int.reduceLE,Nat.reduceEqDiff,Nat.reduceAdd,reduceIte,reduceCtorEq,Nat.reduceLT,Nat.reduceLeDiff,Nat.reduceShiftRight,Nat.reduceMod]
def waveA (l:List Int):AV:=.agg [.sl (ints l)]
theorem CheckSamples_s (l:List Int):Sound Tryz.prog 95 [.sl (ints l)] (.tup [.int .i64 (smI l),.int .i64 (smE l)]):=by
 refine sound_W f_ref02_CheckSamples (Nat.le_of_ble_eq_true rfl) ?_
 simp only [c_ref02_CheckSamples,vZ,Int.reduceEq,Int.reduceNe,Int.reduceLT,Int.reduceLE,Nat.reduceEqDiff,Nat.reduceAdd,reduceIte,reduceCtorEq,Nat.reduceLT,Nat.reduceLeDiff,Nat.reduceShiftRight,Nat.reduceMod]
 by_cases h0:l.length=0
 ·have h0':(l.length:Int)=0:=by omega
  have he:smE l=10:=by unfold smE;rw [if_pos h0]
  have hi:smI l=0:=by unfold smI;rw [if_neg (by rw [he];decide)]
  simp only [h0',he,hi,vZ,Int.reduceEq,Int.reduceNe,Int.reduceLT,Int.reduceLE,Nat.reduceEqDiff,Nat.reduceAdd,reduceIte,reduceCtorEq,Nat.reduceLT,Nat.reduceLeDiff,Nat.reduceShiftRight,Nat.reduceMod]
 have h0':¬ (l.length:Int)=0:=by omega
 simp only [h0',vZ,Int.reduceEq,Int.reduceNe,Int.reduceLT,Int.reduceLE,Nat.reduceEqDiff,Nat.reduceAdd,reduceIte,reduceCtorEq,Nat.reduceLT,Nat.reduceLeDiff,Nat.reduceShiftRight,Nat.reduceMod]
 by_cases h1:24<l.length
 ·have h1':(24:Int)<l.length:=by omega
  have he:smE l=8:=by unfold smE;rw [if_neg h0,if_pos h1]
  have hi:smI l=0:=by unfold smI;rw [if_neg (by rw [he];decide)]
  simp only [h1',he,hi,vZ,Int.reduceEq,Int.reduceNe,Int.reduceLT,Int.reduceLE,Nat.reduceEqDiff,Nat.reduceAdd,reduceIte,reduceCtorEq,Nat.reduceLT,Nat.reduceLeDiff,Nat.reduceShiftRight,Nat.reduceMod]
 have h1':¬ (24:Int)<l.length:=by omega
 simp only [h1',vZ,Int.reduceEq,Int.reduceNe,Int.reduceLT,Int.reduceLE,Nat.reduceEqDiff,Nat.reduceAdd,reduceIte,reduceCtorEq,Nat.reduceLT,Nat.reduceLeDiff,Nat.reduceShiftRight,Nat.reduceMod]
 refine W_loop (t:=.mk) (α:=PSigma fun i:Nat=>i≤l.length∧(∀ x ∈ l.take i,smp x=true)) (fun ⟨i,_⟩=>((envOf [(0,.sl (ints l)),(4,.int .i64 i)],stOf []))) (fun i=>l.length - i.1) ⟨0,Nat.zero_le _,?_⟩ ?_ (fun ⟨i,hi,hn⟩=>?_)
 ·intro x hx;simp at hx
 ·refine weakX [] (of_decide_eq_true rfl) (of_decide_eq_true rfl) ?_
  (simp only [vcW,vZ,Int.reduceEq,Int.reduceNe,Int.reduceLT,Int.reduceLE,Nat.reduceEqDiff,Nat.reduceAdd,reduceIte,reduceCtorEq,Nat.reduceLT,Nat.reduceLeDiff,Nat.reduceShiftRight,Nat.reduceMod])
  (repeat' first | exact trivial | (with_reducible first | exact RnB.fxB (ints_fxB _) | rfl | refine And.intro ?_ ?_) | (with_reducible (first | refine RnB.bb ?_ | refine RnB.nb ?_);simp only [vcW,vZ,Int.reduceEq,Int.reduceNe,Int.reduceLT,Int.reduceLE,Nat.reduceEqDiff,Nat.reduceAdd,reduceIte,reduceCtorEq,Nat.reduceLT,Nat.reduceLeDiff,Nat.reduceShiftRight,Nat.reduceMod]) | (with_reducible first | refine RnB.ii ?_ | refine RnB.app ?_) | (with_reducible refine RnB.fxB ?_;simp only [vcW,vZ,Int.reduceEq,Int.reduceNe,Int.reduceLT,Int.reduceLE,Nat.reduceEqDiff,Nat.reduceAdd,reduceIte,reduceCtorEq,Nat.reduceLT,Nat.reduceLeDiff,Nat.reduceShiftRight,Nat.reduceMod]) | omega)
 ·by_cases h':i<l.length
  ·have h2:(i:Int)<l.length:=by omega
   simp only [h2,ints_get l i h',vZ,Int.reduceEq,Int.reduceNe,Int.reduceLT,Int.reduceLE,Nat.reduceEqDiff,Nat.reduceAdd,reduceIte,reduceCtorEq,Nat.reduceLT,Nat.reduceLeDiff,Nat.reduceShiftRight,Nat.reduceMod]
   refine ⟨by omega,?_⟩
   refine callS_of (IsSample_s _) ?_
   cases hw:smp l[i] with
   | true =>
    simp only [vZ,Int.reduceEq,Int.reduceNe,Int.reduceLT,Int.reduceLE,Nat.reduceEqDiff,Nat.reduceAdd,reduceIte,reduceCtorEq,Nat.reduceLT,Nat.reduceLeDiff,Nat.reduceShiftRight,Nat.reduceMod]
    refine ⟨by unfold I64;omega,⟨i+1,h',?_⟩,by simp only;omega,?_⟩
    ·rw [List.take_succ_eq_append_getElem h']
     intro x hx
     rcases List.mem_append.1 hx with e | e
     ·exact hn x e
     ·rw [List.mem_singleton.1 e];exact hw
    ·refine weakX [] (of_decide_eq_true rfl) (of_decide_eq_true rfl) ?_
     (simp only [vcW,vZ,Int.reduceEq,Int.reduceNe,Int.reduceLT,Int.reduceLE,Nat.reduceEqDiff,Nat.reduceAdd,reduceIte,reduceCtorEq,Nat.reduceLT,Nat.reduceLeDiff,Nat.reduceShiftRight,Nat.reduceMod])
     (repeat' first | exact trivial | (with_reducible first | exact RnB.fxB (ints_fxB _) | rfl | refine And.intro ?_ ?_) | (with_reducible (first | refine RnB.bb ?_ | refine RnB.nb ?_);simp only [vcW,vZ,Int.reduceEq,Int.reduceNe,Int.reduceLT,Int.reduceLE,Nat.reduceEqDiff,Nat.reduceAdd,reduceIte,reduceCtorEq,Nat.reduceLT,Nat.reduceLeDiff,Nat.reduceShiftRight,Nat.reduceMod]) | (with_reducible first | refine RnB.ii ?_ | refine RnB.app ?_) | (with_reducible refine RnB.fxB ?_;simp only [vcW,vZ,Int.reduceEq,Int.reduceNe,Int.reduceLT,Int.reduceLE,Nat.reduceEqDiff,Nat.reduceAdd,reduceIte,reduceCtorEq,Nat.reduceLT,Nat.reduceLeDiff,Nat.reduceShiftRight,Nat.reduceMod]) | omega)
   | false =>
    have he:smE l=2:=by
     unfold smE
     rw [if_neg h0,if_neg h1,if_neg]
     intro hall
     have:=List.all_eq_true.1 hall _ (List.getElem_mem h')
     rw [hw] at this;cases this
    have hs:l.findIdx? (fun n=>!smp n)=some i:=by
     rw [List.findIdx?_eq_some_iff_getElem]
     refine ⟨h',by rw [hw];rfl,fun j hj=>?_⟩
     have:=hn l[j] (by rw [List.mem_take_iff_getElem];exact ⟨j,by omega,rfl⟩)
     simp [this]
    have hi:smI l=i:=by unfold smI idxOf;rw [if_pos he,hs]
    simp only [he,hi,vZ,Int.reduceEq,Int.reduceNe,Int.reduceLT,Int.reduceLE,Nat.reduceEqDiff,Nat.reduceAdd,reduceIte,reduceCtorEq,Nat.reduceLT,Nat.reduceLeDiff,Nat.reduceShiftRight,Nat.reduceMod]
  ·have h2:¬ (i:Int)<l.length:=by omega
   have hin:i=l.length:=by omega
   subst hin
   rw [List.take_length] at hn
   have he:smE l=0:=by unfold smE;rw [if_neg h0,if_neg h1,if_pos (List.all_eq_true.2 hn)]
   have hi:smI l=0:=by unfold smI;rw [if_neg (by rw [he];decide)]
   simp only [h2,he,hi,vZ,Int.reduceEq,Int.reduceNe,Int.reduceLT,Int.reduceLE,Nat.reduceEqDiff,Nat.reduceAdd,reduceIte,reduceCtorEq,Nat.reduceLT,Nat.reduceLeDiff,Nat.reduceShiftRight,Nat.reduceMod]
theorem SamplesErr_s (l:List Int):Sound Tryz.prog 35 [.sl (ints l)] (.int .i64 (smE l)):=by
 refine sound_W f_ref02_SamplesErr (Nat.le_of_ble_eq_true rfl) ?_
 simp only [c_ref02_SamplesErr,vZ,Int.reduceEq,Int.reduceNe,Int.reduceLT,Int.reduceLE,Nat.reduceEqDiff,Nat.reduceAdd,reduceIte,reduceCtorEq,Nat.reduceLT,Nat.reduceLeDiff,Nat.reduceShiftRight,Nat.reduceMod]
 refine callS_of (CheckSamples_s l) ?_
 simp only [vZ,Int.reduceEq,Int.reduceNe,Int.reduceLT,Int.reduceLE,Nat.reduceEqDiff,Nat.reduceAdd,reduceIte,reduceCtorEq,Nat.reduceLT,Nat.reduceLeDiff,Nat.reduceShiftRight,Nat.reduceMod]
theorem droopErr_s (d:Droop):Sound Tryz.prog 173 [d.av] (.int .i64 d.e):=by
 refine sound_W f_pulse_droopErr (Nat.le_of_ble_eq_true rfl) ?_
 unfold Droop.e
 simp only [c_pulse_droopErr,Droop.av,vZ,Int.reduceEq,Int.reduceNe,Int.reduceLT,Int.reduceLE,Nat.reduceEqDiff,Nat.reduceAdd,reduceIte,reduceCtorEq,Nat.reduceLT,Nat.reduceLeDiff,Nat.reduceShiftRight,Nat.reduceMod]
 refine callS_of (within_s _ _ _) ?_
 by_cases h1:0≤d.leak∧d.leak≤1000
 ·by_cases h2:1≤d.div∧d.div≤10000
  ·have ho:d.ok:=⟨h1,h2⟩
   simp only [h1,vZ,Int.reduceEq,Int.reduceNe,Int.reduceLT,Int.reduceLE,Nat.reduceEqDiff,Nat.reduceAdd,reduceIte,reduceCtorEq,Nat.reduceLT,Nat.reduceLeDiff,Nat.reduceShiftRight,Nat.reduceMod]
   refine callS_of (within_s _ _ _) ?_
   simp only [h2,vZ,Int.reduceEq,Int.reduceNe,Int.reduceLT,Int.reduceLE,Nat.reduceEqDiff,Nat.reduceAdd,reduceIte,reduceCtorEq,Nat.reduceLT,Nat.reduceLeDiff,Nat.reduceShiftRight,Nat.reduceMod]
   refine callS_of (unless_s _ _) ?_
   simp only [ho,vZ,Int.reduceEq,Int.reduceNe,Int.reduceLT,Int.reduceLE,Nat.reduceEqDiff,Nat.reduceAdd,reduceIte,reduceCtorEq,Nat.reduceLT,Nat.reduceLeDiff,Nat.reduceShiftRight,Nat.reduceMod]
  ·have ho:¬ d.ok:=fun h=>h2 h.2
   simp only [h1,vZ,Int.reduceEq,Int.reduceNe,Int.reduceLT,Int.reduceLE,Nat.reduceEqDiff,Nat.reduceAdd,reduceIte,reduceCtorEq,Nat.reduceLT,Nat.reduceLeDiff,Nat.reduceShiftRight,Nat.reduceMod]
   refine callS_of (within_s _ _ _) ?_
   simp only [h2,vZ,Int.reduceEq,Int.reduceNe,Int.reduceLT,Int.reduceLE,Nat.reduceEqDiff,Nat.reduceAdd,reduceIte,reduceCtorEq,Nat.reduceLT,Nat.reduceLeDiff,Nat.reduceShiftRight,Nat.reduceMod]
   refine callS_of (unless_s _ _) ?_
   simp only [ho,vZ,Int.reduceEq,Int.reduceNe,Int.reduceLT,Int.reduceLE,Nat.reduceEqDiff,Nat.reduceAdd,reduceIte,reduceCtorEq,Nat.reduceLT,Nat.reduceLeDiff,Nat.reduceShiftRight,Nat.reduceMod]
 ·have ho:¬ d.ok:=fun h=>h1 h.1
  simp only [h1,vZ,Int.reduceEq,Int.reduceNe,Int.reduceLT,Int.reduceLE,Nat.reduceEqDiff,Nat.reduceAdd,reduceIte,reduceCtorEq,Nat.reduceLT,Nat.reduceLeDiff,Nat.reduceShiftRight,Nat.reduceMod]
  refine callS_of (unless_s _ _) ?_
  simp only [ho,vZ,Int.reduceEq,Int.reduceNe,Int.reduceLT,Int.reduceLE,Nat.reduceEqDiff,Nat.reduceAdd,reduceIte,reduceCtorEq,Nat.reduceLT,Nat.reduceLeDiff,Nat.reduceShiftRight,Nat.reduceMod]
theorem DroopErr_s (d:Droop):Sound Tryz.prog 56 [d.av] (.int .i64 d.e):=by
 refine sound_W f_ref02_DroopErr (Nat.le_of_ble_eq_true rfl) ?_
 unfold Droop.e
 simp only [c_ref02_DroopErr,Droop.av,vZ,Int.reduceEq,Int.reduceNe,Int.reduceLT,Int.reduceLE,Nat.reduceEqDiff,Nat.reduceAdd,reduceIte,reduceCtorEq,Nat.reduceLT,Nat.reduceLeDiff,Nat.reduceShiftRight,Nat.reduceMod]
 refine callS_of (Within_s _ _ _) ?_
 by_cases h1:0≤d.leak∧d.leak≤1000
 ·by_cases h2:1≤d.div∧d.div≤10000
  ·have ho:d.ok:=⟨h1,h2⟩
   simp only [h1,vZ,Int.reduceEq,Int.reduceNe,Int.reduceLT,Int.reduceLE,Nat.reduceEqDiff,Nat.reduceAdd,reduceIte,reduceCtorEq,Nat.reduceLT,Nat.reduceLeDiff,Nat.reduceShiftRight,Nat.reduceMod]
   refine callS_of (Within_s _ _ _) ?_
   simp only [h2,ho,vZ,Int.reduceEq,Int.reduceNe,Int.reduceLT,Int.reduceLE,Nat.reduceEqDiff,Nat.reduceAdd,reduceIte,reduceCtorEq,Nat.reduceLT,Nat.reduceLeDiff,Nat.reduceShiftRight,Nat.reduceMod]
  ·have ho:¬ d.ok:=fun h=>h2 h.2
   simp only [h1,vZ,Int.reduceEq,Int.reduceNe,Int.reduceLT,Int.reduceLE,Nat.reduceEqDiff,Nat.reduceAdd,reduceIte,reduceCtorEq,Nat.reduceLT,Nat.reduceLeDiff,Nat.reduceShiftRight,Nat.reduceMod]
   refine callS_of (Within_s _ _ _) ?_
   simp only [h2,ho,vZ,Int.reduceEq,Int.reduceNe,Int.reduceLT,Int.reduceLE,Nat.reduceEqDiff,Nat.reduceAdd,reduceIte,reduceCtorEq,Nat.reduceLT,Nat.reduceLeDiff,Nat.reduceShiftRight,Nat.reduceMod]
 ·have ho:¬ d.ok:=fun h=>h1 h.1
  simp only [h1,ho,vZ,Int.reduceEq,Int.reduceNe,Int.reduceLT,Int.reduceLE,Nat.reduceEqDiff,Nat.reduceAdd,reduceIte,reduceCtorEq,Nat.reduceLT,Nat.reduceLeDiff,Nat.reduceShiftRight,Nat.reduceMod]
theorem Wave_s (l:List Int) (hl:l.length≤1000000000):Sound Tryz.prog 24 [.sl (ints l)] (waveA l):=by
 refine sound_W f_ref02_Wave (Nat.le_of_ble_eq_true rfl) ?_
 simp only [c_ref02_Wave,vZ,Int.reduceEq,Int.reduceNe,Int.reduceLT,Int.reduceLE,Nat.reduceEqDiff,Nat.reduceAdd,reduceIte,reduceCtorEq,Nat.reduceLT,Nat.reduceLeDiff,Nat.reduceShiftRight,Nat.reduceMod]
 refine callS_of (CopyInts_s l hl) ?_
 simp only [waveA,vZ,Int.reduceEq,Int.reduceNe,Int.reduceLT,Int.reduceLE,Nat.reduceEqDiff,Nat.reduceAdd,reduceIte,reduceCtorEq,Nat.reduceLT,Nat.reduceLeDiff,Nat.reduceShiftRight,Nat.reduceMod]

theorem drp_bad {d:Droop} {up:Bool} {l:List Int} {i:Nat} (hi:i<l.length) (h:smp (drpY d up l i)=false):(drp d up l l.length).1.all smp=false:=by
 have hg:=drp_get d up l (i:=i) (n:=l.length) hi
 apply Bool.eq_false_iff.2
 intro hall
 have:=List.all_eq_true.1 hall _ (List.mem_of_getElem? hg)
 rw [h] at this;cases this
theorem all_snoc (o:List Int) (y:Int):(o ++ [y]).all smp=(o.all smp && smp y):=by rw [List.all_append];simp
theorem drpE_e {d:Droop} {up:Bool} {l:List Int}:(if d.e ≠ 0 then d.e else smE l) ≠ 0→(if d.e ≠ 0 then d.e else smE l)=drpE d up l∧drpO d up l=[]:=by
 intro h
 unfold Droop.e at *
 have key:(if (if d.ok then (0:Int) else 2) ≠ 0 then (if d.ok then (0:Int) else 2) else smE l)=drpE d up l:=by
  unfold drpE
  by_cases h1:d.ok
  ·simp only [h1,if_true,ne_eq,not_true_eq_false,if_false] at h ⊢
   rw [if_neg h]
  ·simp only [h1,if_false,ne_eq,if_true,(by decide:¬ (2:Int)=0),not_false_eq_true]
 refine ⟨key,?_⟩
 unfold drpO
 rw [if_neg (by rw [← key];exact h)]
theorem drpE_in {d:Droop} {up:Bool} {l:List Int} (h1:d.ok) (h2:smE l=0):drpE d up l=if (drp d up l l.length).1.all smp then 0 else 8:=by
 unfold drpE;rw [if_pos h1,if_pos h2]
theorem droopU_s (d:Droop) (l:List Int) (hl:l.length<4000000000000000000):Sound Tryz.prog 124 [d.av,.sl (ints l),.int .i64 1] (.tup [.sl (ints (drpO d true l)),.int .i64 (drpE d true l)]):=by
 refine sound_W f_pulse_droop (Nat.le_of_ble_eq_true rfl) ?_
 have hmax:=maxLen_big
 have hD:=droopErr_s d
 unfold Droop.av at hD
 simp only [c_pulse_droop,Droop.av,vZ,Int.reduceEq,Int.reduceNe,Int.reduceLT,Int.reduceLE,Nat.reduceEqDiff,Nat.reduceAdd,reduceIte,reduceCtorEq,Nat.reduceLT,Nat.reduceLeDiff,Nat.reduceShiftRight,Nat.reduceMod]
 refine callS_of hD ?_
 simp only [vZ,Int.reduceEq,Int.reduceNe,Int.reduceLT,Int.reduceLE,Nat.reduceEqDiff,Nat.reduceAdd,reduceIte,reduceCtorEq,Nat.reduceLT,Nat.reduceLeDiff,Nat.reduceShiftRight,Nat.reduceMod]
 refine callS_of (sampled_s l hl) ?_
 simp only [vZ,Int.reduceEq,Int.reduceNe,Int.reduceLT,Int.reduceLE,Nat.reduceEqDiff,Nat.reduceAdd,reduceIte,reduceCtorEq,Nat.reduceLT,Nat.reduceLeDiff,Nat.reduceShiftRight,Nat.reduceMod]
 refine callS_of (first2_s _ _) ?_
 by_cases h0:(if d.e ≠ 0 then d.e else smE l)=0
 case neg =>
  obtain ⟨e1,e2⟩:=drpE_e (up:=true) h0
  rw [e1] at h0 ⊢
  rw [e2]
  simp only [h0,vZ,Int.reduceEq,Int.reduceNe,Int.reduceLT,Int.reduceLE,Nat.reduceEqDiff,Nat.reduceAdd,reduceIte,reduceCtorEq,Nat.reduceLT,Nat.reduceLeDiff,Nat.reduceShiftRight,Nat.reduceMod]
  rfl
 have hok:d.ok∧smE l=0:=by
  unfold Droop.e at h0
  by_cases h1:d.ok
  ·simp only [h1,if_true,ne_eq,not_true_eq_false,if_false] at h0
   exact ⟨h1,h0⟩
  ·simp only [h1,if_false,ne_eq,if_true,(by decide:¬ (2:Int)=0),not_false_eq_true] at h0
 obtain ⟨h1,h2⟩:=hok
 obtain ⟨g1,g2,h3⟩:=smE_ok h2
 have hEE:=drpE_in (up:=true) h1 h2
 rw [h0]
 simp only [vZ,Int.reduceEq,Int.reduceNe,Int.reduceLT,Int.reduceLE,Nat.reduceEqDiff,Nat.reduceAdd,reduceIte,reduceCtorEq,Nat.reduceLT,Nat.reduceLeDiff,Nat.reduceShiftRight,Nat.reduceMod]
 refine W_loop (t:=.mk) (α:=PSigma fun i:Nat=>i≤l.length∧(drp d true l i).1.all smp=true) (fun ⟨i,_⟩=>(envOf [(2,.int .i64 1),(3,.ptr 3 0 0),(9,.int .i64 (drp d true l i).2),(10,.buf 100 i),(24,.sl (ints l)),(25,.int .i64 l.length),(26,.int .i64 i)],stOf [(3,⟨104,2,[.agg [.int .i64 d.leak,.int .i64 d.div]]⟩),(100,⟨3,1,ints (drp d true l i).1⟩)])) (fun p=>l.length - p.1) ⟨0,Nat.zero_le _,rfl⟩ ?_ (fun ⟨i,hi,hall⟩=>?_)
 ·have z1:(drp d true l 0).2=0:=rfl
  have z2:ints (drp d true l 0).1=[]:=rfl
  refine weakX [(100,none)] (of_decide_eq_true rfl) (of_decide_eq_true rfl) ?_
  (simp only [z1,z2,vcW,vZ,Int.reduceEq,Int.reduceNe,Int.reduceLT,Int.reduceLE,Nat.reduceEqDiff,Nat.reduceAdd,reduceIte,reduceCtorEq,Nat.reduceLT,Nat.reduceLeDiff,Nat.reduceShiftRight,Nat.reduceMod])
  (repeat' first | exact trivial | (with_reducible first | exact RnB.fxB (ints_fxB _) | rfl | refine And.intro ?_ ?_) | (with_reducible (first | refine RnB.bb ?_ | refine RnB.nb ?_);simp only [vcW,vZ,Int.reduceEq,Int.reduceNe,Int.reduceLT,Int.reduceLE,Nat.reduceEqDiff,Nat.reduceAdd,reduceIte,reduceCtorEq,Nat.reduceLT,Nat.reduceLeDiff,Nat.reduceShiftRight,Nat.reduceMod]) | (with_reducible first | refine RnB.ii ?_ | refine RnB.app ?_) | (with_reducible refine RnB.fxB ?_;simp only [vcW,vZ,Int.reduceEq,Int.reduceNe,Int.reduceLT,Int.reduceLE,Nat.reduceEqDiff,Nat.reduceAdd,reduceIte,reduceCtorEq,Nat.reduceLT,Nat.reduceLeDiff,Nat.reduceShiftRight,Nat.reduceMod]) | omega)
 ·dsimp only at hi hall ⊢
  by_cases h':i<l.length
  ·have h5:(i:Int)<l.length:=by omega
   have hdb:=drp_bound (up:=true) h1 h3 i (fun _=>hall)
   have hib:(i:Int)≤24:=by omega
   have hxb:=h3 l[i] (List.getElem_mem h')
   have hln:(ints (drp d true l i).1).length=i:=by rw [ints_length,drp_len]
   have hY:drpY d true l i=l[i]+(drp d true l i).2 / d.div:=by unfold drpY;rw [getD_at h'];simp
   have hsu:=drp_succ d true l i
   rw [getD_at h',hY] at hsu
   have hbad:=drp_bad (d:=d) (up:=true) h'
   rw [hY] at hbad
   have hal:=all_snoc (drp d true l i).1 (l[i]+(drp d true l i).2 / d.div)
   rw [hall] at hal
   generalize hs:(drp d true l i).2=s at *
   generalize ho:(drp d true l i).1=o at *
   have hd1:=div_abs (s:=s) h1.2.1 (show (0:Int)≤240000 by omega) (by omega)
   have hd2:=mul_abs (s:=s) h1.1 (show (0:Int)≤240000 by omega) (by omega)
   have hF:=pfloor_s s d.div (by unfold I64;omega) (by have:=h1.2.1;omega)
   have hG:=pfloor_s (s * d.leak) 1000 (by unfold I64;omega) (by omega)
   generalize hq:s / d.div=q at *
   generalize hw:s * d.leak=w at *
   have hia:ints (o ++ [l[i]+q])=ints o ++ [.int .i64 (l[i]+q)]:=ints_append _ _
   have hneg : -1 * q = -q:=Int.neg_one_mul q
   have hsub:l[i] + -q=l[i] - q:=rfl
   simp only [h5,ints_get l i h',vZ,Int.reduceEq,Int.reduceNe,Int.reduceLT,Int.reduceLE,Nat.reduceEqDiff,Nat.reduceAdd,reduceIte,reduceCtorEq,Nat.reduceLT,Nat.reduceLeDiff,Nat.reduceShiftRight,Nat.reduceMod]
   refine ⟨by omega,?_⟩
   refine callS_of hF ?_
   simp only [Int.one_mul,vZ,Int.reduceEq,Int.reduceNe,Int.reduceLT,Int.reduceLE,Nat.reduceEqDiff,Nat.reduceAdd,reduceIte,reduceCtorEq,Nat.reduceLT,Nat.reduceLeDiff,Nat.reduceShiftRight,Nat.reduceMod]
   (repeat (with_reducible refine And.intro ?_ ?_;focus (first | omega | (unfold I64;omega))))
   refine callS_of (isSample_s _) ?_
   cases hsm:smp (l[i]+q) with
   | false =>
    have he:=hbad hsm
    have hE8:drpE d true l=8:=by rw [hEE,he];rfl
    have hO8:drpO d true l=[]:=by unfold drpO;rw [if_neg (by rw [hE8];decide)]
    simp only [hE8,hO8,vZ,Int.reduceEq,Int.reduceNe,Int.reduceLT,Int.reduceLE,Nat.reduceEqDiff,Nat.reduceAdd,reduceIte,reduceCtorEq,Nat.reduceLT,Nat.reduceLeDiff,Nat.reduceShiftRight,Nat.reduceMod]
    rfl
   | true =>
    simp only [hln,hw,vZ,Int.reduceEq,Int.reduceNe,Int.reduceLT,Int.reduceLE,Nat.reduceEqDiff,Nat.reduceAdd,reduceIte,reduceCtorEq,Nat.reduceLT,Nat.reduceLeDiff,Nat.reduceShiftRight,Nat.reduceMod]
    (repeat (with_reducible refine And.intro ?_ ?_;focus (first | omega | (unfold I64;omega))))
    refine callS_of hG ?_
    simp only [hln,vZ,Int.reduceEq,Int.reduceNe,Int.reduceLT,Int.reduceLE,Nat.reduceEqDiff,Nat.reduceAdd,reduceIte,reduceCtorEq,Nat.reduceLT,Nat.reduceLeDiff,Nat.reduceShiftRight,Nat.reduceMod]
    (repeat (with_reducible refine And.intro ?_ ?_;focus (first | omega | (unfold I64;omega))))
    refine ⟨⟨i+1,h',by rw [hsu,hal,hsm];rfl⟩,by simp only;omega,?_⟩
    refine weakX [(100,some 44)] (of_decide_eq_true rfl) (of_decide_eq_true rfl) ?_
    (simp only [hsu,hia,hln,vcW,vZ,Int.reduceEq,Int.reduceNe,Int.reduceLT,Int.reduceLE,Nat.reduceEqDiff,Nat.reduceAdd,reduceIte,reduceCtorEq,Nat.reduceLT,Nat.reduceLeDiff,Nat.reduceShiftRight,Nat.reduceMod])
    (repeat' first | exact trivial | (with_reducible first | exact RnB.fxB (ints_fxB _) | rfl | refine And.intro ?_ ?_) | (with_reducible (first | refine RnB.bb ?_ | refine RnB.nb ?_);simp only [vcW,vZ,Int.reduceEq,Int.reduceNe,Int.reduceLT,Int.reduceLE,Nat.reduceEqDiff,Nat.reduceAdd,reduceIte,reduceCtorEq,Nat.reduceLT,Nat.reduceLeDiff,Nat.reduceShiftRight,Nat.reduceMod]) | (with_reducible first | refine RnB.ii ?_ | refine RnB.app ?_) | (with_reducible refine RnB.fxB ?_;simp only [vcW,vZ,Int.reduceEq,Int.reduceNe,Int.reduceLT,Int.reduceLE,Nat.reduceEqDiff,Nat.reduceAdd,reduceIte,reduceCtorEq,Nat.reduceLT,Nat.reduceLeDiff,Nat.reduceShiftRight,Nat.reduceMod]) | omega)
    all_goals first | exact hia.symm | exact RnB.fxB (by rw [← hia];exact ints_fxB _) | (rw [ints_append];rfl) | skip
  ·have h5:¬ (i:Int)<l.length:=by omega
   have hin:i=l.length:=by omega
   subst hin
   have hE0:drpE d true l=0:=by rw [hEE,hall];rfl
   have hO0:drpO d true l=(drp d true l l.length).1:=by unfold drpO;rw [if_pos hE0]
   simp only [h5,vZ,Int.reduceEq,Int.reduceNe,Int.reduceLT,Int.reduceLE,Nat.reduceEqDiff,Nat.reduceAdd,reduceIte,reduceCtorEq,Nat.reduceLT,Nat.reduceLeDiff,Nat.reduceShiftRight,Nat.reduceMod]
   rw [borB_good _ _ _ _ _ (by rw [ints_length,drp_len]) (ints_fx _),hE0,hO0]
theorem droopD_s (d:Droop) (l:List Int) (hl:l.length<4000000000000000000):Sound Tryz.prog 124 [d.av,.sl (ints l),.int .i64 (-1)] (.tup [.sl (ints (drpO d false l)),.int .i64 (drpE d false l)]):=by
 refine sound_W f_pulse_droop (Nat.le_of_ble_eq_true rfl) ?_
 have hmax:=maxLen_big
 have hD:=droopErr_s d
 unfold Droop.av at hD
 simp only [c_pulse_droop,Droop.av,vZ,Int.reduceEq,Int.reduceNe,Int.reduceLT,Int.reduceLE,Nat.reduceEqDiff,Nat.reduceAdd,reduceIte,reduceCtorEq,Nat.reduceLT,Nat.reduceLeDiff,Nat.reduceShiftRight,Nat.reduceMod]
 refine callS_of hD ?_
 simp only [vZ,Int.reduceEq,Int.reduceNe,Int.reduceLT,Int.reduceLE,Nat.reduceEqDiff,Nat.reduceAdd,reduceIte,reduceCtorEq,Nat.reduceLT,Nat.reduceLeDiff,Nat.reduceShiftRight,Nat.reduceMod]
 refine callS_of (sampled_s l hl) ?_
 simp only [vZ,Int.reduceEq,Int.reduceNe,Int.reduceLT,Int.reduceLE,Nat.reduceEqDiff,Nat.reduceAdd,reduceIte,reduceCtorEq,Nat.reduceLT,Nat.reduceLeDiff,Nat.reduceShiftRight,Nat.reduceMod]
 refine callS_of (first2_s _ _) ?_
 by_cases h0:(if d.e ≠ 0 then d.e else smE l)=0
 case neg =>
  obtain ⟨e1,e2⟩:=drpE_e (up:=false) h0
  rw [e1] at h0 ⊢
  rw [e2]
  simp only [h0,vZ,Int.reduceEq,Int.reduceNe,Int.reduceLT,Int.reduceLE,Nat.reduceEqDiff,Nat.reduceAdd,reduceIte,reduceCtorEq,Nat.reduceLT,Nat.reduceLeDiff,Nat.reduceShiftRight,Nat.reduceMod]
  rfl
 have hok:d.ok∧smE l=0:=by
  unfold Droop.e at h0
  by_cases h1:d.ok
  ·simp only [h1,if_true,ne_eq,not_true_eq_false,if_false] at h0
   exact ⟨h1,h0⟩
  ·simp only [h1,if_false,ne_eq,if_true,(by decide:¬ (2:Int)=0),not_false_eq_true] at h0
 obtain ⟨h1,h2⟩:=hok
 obtain ⟨g1,g2,h3⟩:=smE_ok h2
 have hEE:=drpE_in (up:=false) h1 h2
 rw [h0]
 simp only [vZ,Int.reduceEq,Int.reduceNe,Int.reduceLT,Int.reduceLE,Nat.reduceEqDiff,Nat.reduceAdd,reduceIte,reduceCtorEq,Nat.reduceLT,Nat.reduceLeDiff,Nat.reduceShiftRight,Nat.reduceMod]
 refine W_loop (t:=.mk) (α:=PSigma fun i:Nat=>i≤l.length∧(drp d false l i).1.all smp=true) (fun ⟨i,_⟩=>(envOf [(2,.int .i64 (-1)),(3,.ptr 3 0 0),(9,.int .i64 (drp d false l i).2),(10,.buf 100 i),(24,.sl (ints l)),(25,.int .i64 l.length),(26,.int .i64 i)],stOf [(3,⟨104,2,[.agg [.int .i64 d.leak,.int .i64 d.div]]⟩),(100,⟨3,1,ints (drp d false l i).1⟩)])) (fun p=>l.length - p.1) ⟨0,Nat.zero_le _,rfl⟩ ?_ (fun ⟨i,hi,hall⟩=>?_)
 ·have z1:(drp d false l 0).2=0:=rfl
  have z2:ints (drp d false l 0).1=[]:=rfl
  refine weakX [(100,none)] (of_decide_eq_true rfl) (of_decide_eq_true rfl) ?_
  (simp only [z1,z2,vcW,vZ,Int.reduceEq,Int.reduceNe,Int.reduceLT,Int.reduceLE,Nat.reduceEqDiff,Nat.reduceAdd,reduceIte,reduceCtorEq,Nat.reduceLT,Nat.reduceLeDiff,Nat.reduceShiftRight,Nat.reduceMod])
  (repeat' first | exact trivial | (with_reducible first | exact RnB.fxB (ints_fxB _) | rfl | refine And.intro ?_ ?_) | (with_reducible (first | refine RnB.bb ?_ | refine RnB.nb ?_);simp only [vcW,vZ,Int.reduceEq,Int.reduceNe,Int.reduceLT,Int.reduceLE,Nat.reduceEqDiff,Nat.reduceAdd,reduceIte,reduceCtorEq,Nat.reduceLT,Nat.reduceLeDiff,Nat.reduceShiftRight,Nat.reduceMod]) | (with_reducible first | refine RnB.ii ?_ | refine RnB.app ?_) | (with_reducible refine RnB.fxB ?_;simp only [vcW,vZ,Int.reduceEq,Int.reduceNe,Int.reduceLT,Int.reduceLE,Nat.reduceEqDiff,Nat.reduceAdd,reduceIte,reduceCtorEq,Nat.reduceLT,Nat.reduceLeDiff,Nat.reduceShiftRight,Nat.reduceMod]) | omega)
 ·dsimp only at hi hall ⊢
  by_cases h':i<l.length
  ·have h5:(i:Int)<l.length:=by omega
   have hdb:=drp_bound (up:=false) h1 h3 i (fun _=>hall)
   have hib:(i:Int)≤24:=by omega
   have hxb:=h3 l[i] (List.getElem_mem h')
   have hln:(ints (drp d false l i).1).length=i:=by rw [ints_length,drp_len]
   have hY:drpY d false l i=l[i] - (drp d false l i).2 / d.div:=by unfold drpY;rw [getD_at h'];simp
   have hsu:=drp_succ d false l i
   rw [getD_at h',hY] at hsu
   have hbad:=drp_bad (d:=d) (up:=false) h'
   rw [hY] at hbad
   have hal:=all_snoc (drp d false l i).1 (l[i] - (drp d false l i).2 / d.div)
   rw [hall] at hal
   generalize hs:(drp d false l i).2=s at *
   generalize ho:(drp d false l i).1=o at *
   have hd1:=div_abs (s:=s) h1.2.1 (show (0:Int)≤240000 by omega) (by omega)
   have hd2:=mul_abs (s:=s) h1.1 (show (0:Int)≤240000 by omega) (by omega)
   have hF:=pfloor_s s d.div (by unfold I64;omega) (by have:=h1.2.1;omega)
   have hG:=pfloor_s (s * d.leak) 1000 (by unfold I64;omega) (by omega)
   generalize hq:s / d.div=q at *
   generalize hw:s * d.leak=w at *
   have hia:ints (o ++ [l[i] - q])=ints o ++ [.int .i64 (l[i] - q)]:=ints_append _ _
   have hneg : -1 * q = -q:=Int.neg_one_mul q
   have hsub:l[i] + -q=l[i] - q:=rfl
   simp only [h5,ints_get l i h',vZ,Int.reduceEq,Int.reduceNe,Int.reduceLT,Int.reduceLE,Nat.reduceEqDiff,Nat.reduceAdd,reduceIte,reduceCtorEq,Nat.reduceLT,Nat.reduceLeDiff,Nat.reduceShiftRight,Nat.reduceMod]
   refine ⟨by omega,?_⟩
   refine callS_of hF ?_
   simp only [hneg,hsub,vZ,Int.reduceEq,Int.reduceNe,Int.reduceLT,Int.reduceLE,Nat.reduceEqDiff,Nat.reduceAdd,reduceIte,reduceCtorEq,Nat.reduceLT,Nat.reduceLeDiff,Nat.reduceShiftRight,Nat.reduceMod]
   (repeat (with_reducible refine And.intro ?_ ?_;focus (first | omega | (unfold I64;omega))))
   refine callS_of (isSample_s _) ?_
   cases hsm:smp (l[i] - q) with
   | false =>
    have he:=hbad hsm
    have hE8:drpE d false l=8:=by rw [hEE,he];rfl
    have hO8:drpO d false l=[]:=by unfold drpO;rw [if_neg (by rw [hE8];decide)]
    simp only [hE8,hO8,vZ,Int.reduceEq,Int.reduceNe,Int.reduceLT,Int.reduceLE,Nat.reduceEqDiff,Nat.reduceAdd,reduceIte,reduceCtorEq,Nat.reduceLT,Nat.reduceLeDiff,Nat.reduceShiftRight,Nat.reduceMod]
    rfl
   | true =>
    simp only [hln,hw,vZ,Int.reduceEq,Int.reduceNe,Int.reduceLT,Int.reduceLE,Nat.reduceEqDiff,Nat.reduceAdd,reduceIte,reduceCtorEq,Nat.reduceLT,Nat.reduceLeDiff,Nat.reduceShiftRight,Nat.reduceMod]
    (repeat (with_reducible refine And.intro ?_ ?_;focus (first | omega | (unfold I64;omega))))
    refine callS_of hG ?_
    simp only [hln,vZ,Int.reduceEq,Int.reduceNe,Int.reduceLT,Int.reduceLE,Nat.reduceEqDiff,Nat.reduceAdd,reduceIte,reduceCtorEq,Nat.reduceLT,Nat.reduceLeDiff,Nat.reduceShiftRight,Nat.reduceMod]
    (repeat (with_reducible refine And.intro ?_ ?_;focus (first | omega | (unfold I64;omega))))
    refine ⟨⟨i+1,h',by rw [hsu,hal,hsm];rfl⟩,by simp only;omega,?_⟩
    refine weakX [(100,some 44)] (of_decide_eq_true rfl) (of_decide_eq_true rfl) ?_
    (simp only [hsu,hia,hln,vcW,vZ,Int.reduceEq,Int.reduceNe,Int.reduceLT,Int.reduceLE,Nat.reduceEqDiff,Nat.reduceAdd,reduceIte,reduceCtorEq,Nat.reduceLT,Nat.reduceLeDiff,Nat.reduceShiftRight,Nat.reduceMod])
    (repeat' first | exact trivial | (with_reducible first | exact RnB.fxB (ints_fxB _) | rfl | refine And.intro ?_ ?_) | (with_reducible (first | refine RnB.bb ?_ | refine RnB.nb ?_);simp only [vcW,vZ,Int.reduceEq,Int.reduceNe,Int.reduceLT,Int.reduceLE,Nat.reduceEqDiff,Nat.reduceAdd,reduceIte,reduceCtorEq,Nat.reduceLT,Nat.reduceLeDiff,Nat.reduceShiftRight,Nat.reduceMod]) | (with_reducible first | refine RnB.ii ?_ | refine RnB.app ?_) | (with_reducible refine RnB.fxB ?_;simp only [vcW,vZ,Int.reduceEq,Int.reduceNe,Int.reduceLT,Int.reduceLE,Nat.reduceEqDiff,Nat.reduceAdd,reduceIte,reduceCtorEq,Nat.reduceLT,Nat.reduceLeDiff,Nat.reduceShiftRight,Nat.reduceMod]) | omega)
    all_goals first | exact hia.symm | exact RnB.fxB (by rw [← hia];exact ints_fxB _) | (rw [ints_append];rfl) | skip
  ·have h5:¬ (i:Int)<l.length:=by omega
   have hin:i=l.length:=by omega
   subst hin
   have hE0:drpE d false l=0:=by rw [hEE,hall];rfl
   have hO0:drpO d false l=(drp d false l l.length).1:=by unfold drpO;rw [if_pos hE0]
   simp only [h5,vZ,Int.reduceEq,Int.reduceNe,Int.reduceLT,Int.reduceLE,Nat.reduceEqDiff,Nat.reduceAdd,reduceIte,reduceCtorEq,Nat.reduceLT,Nat.reduceLeDiff,Nat.reduceShiftRight,Nat.reduceMod]
   rw [borB_good _ _ _ _ _ (by rw [ints_length,drp_len]) (ints_fx _),hE0,hO0]
theorem Recorded_s (d:Droop) (l:List Int) (hl:l.length<4000000000000000000):Sound Tryz.prog 60 [d.av,.sl (ints l)] (.tup [waveA (drpO d false l),.int .i64 (drpE d false l)]):=by
 refine sound_W f_pulse_Recorded (Nat.le_of_ble_eq_true rfl) ?_
 have hD:=droopD_s d l hl
 unfold Droop.av at hD
 simp only [c_pulse_Recorded,Droop.av,vZ,Int.reduceEq,Int.reduceNe,Int.reduceLT,Int.reduceLE,Nat.reduceEqDiff,Nat.reduceAdd,reduceIte,reduceCtorEq,Nat.reduceLT,Nat.reduceLeDiff,Nat.reduceShiftRight,Nat.reduceMod]
 refine callS_of hD ?_
 simp only [waveA,vZ,Int.reduceEq,Int.reduceNe,Int.reduceLT,Int.reduceLE,Nat.reduceEqDiff,Nat.reduceAdd,reduceIte,reduceCtorEq,Nat.reduceLT,Nat.reduceLeDiff,Nat.reduceShiftRight,Nat.reduceMod]
theorem Restored_s (d:Droop) (l:List Int) (hl:l.length<4000000000000000000):Sound Tryz.prog 61 [d.av,waveA l] (.tup [.sl (ints (drpO d true l)),.int .i64 (drpE d true l)]):=by
 refine sound_W f_pulse_Restored (Nat.le_of_ble_eq_true rfl) ?_
 have hD:=droopU_s d l hl
 unfold Droop.av at hD
 simp only [c_pulse_Restored,Droop.av,waveA,vZ,Int.reduceEq,Int.reduceNe,Int.reduceLT,Int.reduceLE,Nat.reduceEqDiff,Nat.reduceAdd,reduceIte,reduceCtorEq,Nat.reduceLT,Nat.reduceLeDiff,Nat.reduceShiftRight,Nat.reduceMod]
 refine callS_of hD ?_
 simp only [vZ,Int.reduceEq,Int.reduceNe,Int.reduceLT,Int.reduceLE,Nat.reduceEqDiff,Nat.reduceAdd,reduceIte,reduceCtorEq,Nat.reduceLT,Nat.reduceLeDiff,Nat.reduceShiftRight,Nat.reduceMod]

end Go.Proofs.YtpaklfjlbocfcaaGreatDoor

/- Contracts: dead times and afterpulses. By an AI agent;nothing here is trusted. -/
namespace Go.Proofs.YtpaklfjlbocfcaaGreatDoor
open Go.Av

theorem ints_imm (l:List Int) (n:Nat):((ints l).take n).all imm=true:=List.all_eq_true.2 fun x hx=>by
 obtain ⟨y,_,rfl⟩:=List.mem_map.1 (List.mem_of_mem_take hx)
 rfl
theorem usedL_buf {s:Store} {k len ty sz:Nat} {es rest:List AV} (hs:s k=some (some ⟨ty,sz,es⟩)) (he:(es.take len).all imm=true) (hr:rest.all imm=true):usedL true s (refsL s 5 (.buf k len :: rest)):=by
 intro _ j hj
 have h1:refsL s 5 (.buf k len :: rest)=[k]:=by
  have h2:refsL s 5 (.buf k len :: rest)=refs s 5 (.buf k len) ++ refsL s 5 rest:=rfl
  rw [h2,refsL_imm s 5 rest hr,refs_buf,hs,List.append_nil]
  unfold refsK
  simp only [he,if_true]
 rw [h1,List.mem_singleton] at hj
 rw [hj,hs];simp

end Go.Proofs.YtpaklfjlbocfcaaGreatDoor

/- Contracts: hits,joined ranges. By an AI agent;nothing here is trusted. -/
namespace Go.Proofs.YtpaklfjlbocfcaaGreatDoor
open Go.Av

theorem RnB.an {s s':Store} {f:Nat→Option Nat} {ty sz:Nat}:RnB s s' f ⟨ty,sz,[.agg [.nils]]⟩ ⟨ty,sz,[.agg [.sl []]]⟩:=by
 refine ⟨rfl,rfl,rfl,fun i y y' h1 h2=>?_⟩
 cases i with
 | zero =>
  simp at h1 h2
  subst h1;subst h2
  refine ⟨rfl,fun c hcc=>?_,fun o c c' h3 h4=>?_⟩
  ·simp [cellsOf] at hcc;subst hcc;rfl
  ·cases o with
   | zero=>simp [cellsOf] at h3 h4;subst h3;subst h4;exact .nil0
   | succ o=>simp [cellsOf] at h3
 | succ i=>simp at h1
def jE (hi lo:List Int) (full fac:Int):Int:=if smE hi ≠ 0 then smE hi else if smE lo ≠ 0 then smE lo else if hi.length=lo.length then (if smp full && decide (1≤fac∧fac≤100) then 0 else 2) else 10
def jv (hi lo:List Int) (full fac:Int) (i:Nat):Int:=if full≤hi.getD i 0 then lo.getD i 0 * fac else hi.getD i 0
def jl (hi lo:List Int) (full fac:Int):Nat→List Int
 | 0=>[]
 | i+1=>jl hi lo full fac i ++ [jv hi lo full fac i]
def jE2 (hi lo:List Int) (full fac:Int):Int:=if jE hi lo full fac ≠ 0 then jE hi lo full fac else if (jl hi lo full fac hi.length).all smp then 0 else 8
def jO (hi lo:List Int) (full fac:Int):List Int:=if jE2 hi lo full fac=0 then jl hi lo full fac hi.length else []
theorem jl_len (hi lo:List Int) (full fac:Int):∀ i,(jl hi lo full fac i).length=i
 | 0=>rfl
 | i+1=>by rw [jl,List.length_append,jl_len hi lo full fac i];rfl
theorem jE_ok {hi lo:List Int} {full fac:Int} (h:jE hi lo full fac=0):smE hi=0∧smE lo=0∧hi.length=lo.length∧smp full=true∧(1≤fac∧fac≤100):=by
 unfold jE at h
 split at h
 ·contradiction
 ·rename_i q1
  split at h
  ·contradiction
  ·rename_i q2
   split at h
   ·split at h
    ·rename_i q3 q4
     rw [Bool.and_eq_true,decide_eq_true_eq] at q4
     exact ⟨by simpa using q1,by simpa using q2,q3,q4⟩
    ·cases h
   ·cases h
theorem Joined_1_s (n:Int):Sound Tryz.prog 141 [.int .i64 n] (.bool (!smp n)):=by
 refine sound_W f_pulse_Joined_1 (Nat.le_of_ble_eq_true rfl) ?_
 simp only [c_pulse_Joined_1,vZ,Int.reduceEq,Int.reduceNe,Int.reduceLT,Int.reduceLE,Nat.reduceEqDiff,Nat.reduceAdd,reduceIte,reduceCtorEq,Nat.reduceLT,Nat.reduceLeDiff,Nat.reduceShiftRight,Nat.reduceMod]
 refine callS_of (isSample_s _) ?_
 simp only [vZ,Int.reduceEq,Int.reduceNe,Int.reduceLT,Int.reduceLE,Nat.reduceEqDiff,Nat.reduceAdd,reduceIte,reduceCtorEq,Nat.reduceLT,Nat.reduceLeDiff,Nat.reduceShiftRight,Nat.reduceMod]
theorem Joined_s (hi lo:List Int) (full fac:Int) (hl:hi.length<4000000000000000000) (hl2:lo.length<4000000000000000000):Sound Tryz.prog 69 [waveA hi,waveA lo,.agg [.int .i64 full,.int .i64 fac]] (.tup [waveA (jO hi lo full fac),.int .i64 (jE2 hi lo full fac)]):=by
 refine sound_W f_pulse_Joined (Nat.le_of_ble_eq_true rfl) ?_
 have hmax:=maxLen_big
 have bad:jE hi lo full fac ≠ 0→jE2 hi lo full fac=jE hi lo full fac∧jO hi lo full fac=[]:=fun h=>by
  have h1:jE2 hi lo full fac=jE hi lo full fac:=by unfold jE2;rw [if_pos h]
  exact ⟨h1,by unfold jO;rw [if_neg (by rw [h1];exact h)]⟩
 have zi:ints []=[]:=rfl
 simp only [c_pulse_Joined,waveA,vZ,Int.reduceEq,Int.reduceNe,Int.reduceLT,Int.reduceLE,Nat.reduceEqDiff,Nat.reduceAdd,reduceIte,reduceCtorEq,Nat.reduceLT,Nat.reduceLeDiff,Nat.reduceShiftRight,Nat.reduceMod]
 refine callS_of (sampled_s hi hl) ?_
 simp only [vZ,Int.reduceEq,Int.reduceNe,Int.reduceLT,Int.reduceLE,Nat.reduceEqDiff,Nat.reduceAdd,reduceIte,reduceCtorEq,Nat.reduceLT,Nat.reduceLeDiff,Nat.reduceShiftRight,Nat.reduceMod]
 refine callS_of (sampled_s lo hl2) ?_
 simp only [vZ,Int.reduceEq,Int.reduceNe,Int.reduceLT,Int.reduceLE,Nat.reduceEqDiff,Nat.reduceAdd,reduceIte,reduceCtorEq,Nat.reduceLT,Nat.reduceLeDiff,Nat.reduceShiftRight,Nat.reduceMod]
 refine callS_of (unless_s _ _) ?_
 simp only [vZ,Int.reduceEq,Int.reduceNe,Int.reduceLT,Int.reduceLE,Nat.reduceEqDiff,Nat.reduceAdd,reduceIte,reduceCtorEq,Nat.reduceLT,Nat.reduceLeDiff,Nat.reduceShiftRight,Nat.reduceMod]
 refine callS_of (isSample_s _) ?_
 cases hsf:smp full with
 | false =>
  simp only [vZ,Int.reduceEq,Int.reduceNe,Int.reduceLT,Int.reduceLE,Nat.reduceEqDiff,Nat.reduceAdd,reduceIte,reduceCtorEq,Nat.reduceLT,Nat.reduceLeDiff,Nat.reduceShiftRight,Nat.reduceMod]
  refine callS_of (unless_s _ _) ?_
  simp only [vZ,Int.reduceEq,Int.reduceNe,Int.reduceLT,Int.reduceLE,Nat.reduceEqDiff,Nat.reduceAdd,reduceIte,reduceCtorEq,Nat.reduceLT,Nat.reduceLeDiff,Nat.reduceShiftRight,Nat.reduceMod]
  refine callS_of (first4_s _ _ _ _) ?_
  have he:(if smE hi ≠ 0 then smE hi else if smE lo ≠ 0 then smE lo else if (if decide ((hi.length:Int)=lo.length)=true then (0:Int) else 10) ≠ 0 then (if decide ((hi.length:Int)=lo.length)=true then (0:Int) else 10) else 2)=jE hi lo full fac:=by
   unfold jE;rw [hsf,Bool.false_and]
   by_cases h:hi.length=lo.length
   ·have h':(hi.length:Int)=lo.length:=by omega
    simp [h,h']
   ·have h':¬ (hi.length:Int)=lo.length:=by omega
    simp [h,h']
  rw [he]
  have h0:¬ jE hi lo full fac=0:=fun q=>by
   have:=(jE_ok q).2.2.2.1
   rw [hsf] at this;cases this
  obtain ⟨b1,b2⟩:=bad h0
  simp only [h0,b1,b2,zi,vZ,Int.reduceEq,Int.reduceNe,Int.reduceLT,Int.reduceLE,Nat.reduceEqDiff,Nat.reduceAdd,reduceIte,reduceCtorEq,Nat.reduceLT,Nat.reduceLeDiff,Nat.reduceShiftRight,Nat.reduceMod]
  intro _ k hk;simp [refsL,refs,upd] at hk;subst hk;simp [upd]
 | true =>
 simp only [vZ,Int.reduceEq,Int.reduceNe,Int.reduceLT,Int.reduceLE,Nat.reduceEqDiff,Nat.reduceAdd,reduceIte,reduceCtorEq,Nat.reduceLT,Nat.reduceLeDiff,Nat.reduceShiftRight,Nat.reduceMod]
 refine callS_of (within_s _ _ _) ?_
 simp only [vZ,Int.reduceEq,Int.reduceNe,Int.reduceLT,Int.reduceLE,Nat.reduceEqDiff,Nat.reduceAdd,reduceIte,reduceCtorEq,Nat.reduceLT,Nat.reduceLeDiff,Nat.reduceShiftRight,Nat.reduceMod]
 refine callS_of (unless_s _ _) ?_
 simp only [vZ,Int.reduceEq,Int.reduceNe,Int.reduceLT,Int.reduceLE,Nat.reduceEqDiff,Nat.reduceAdd,reduceIte,reduceCtorEq,Nat.reduceLT,Nat.reduceLeDiff,Nat.reduceShiftRight,Nat.reduceMod]
 refine callS_of (first4_s _ _ _ _) ?_
 have he:(if smE hi ≠ 0 then smE hi else if smE lo ≠ 0 then smE lo else if (if decide ((hi.length:Int)=lo.length)=true then (0:Int) else 10) ≠ 0 then (if decide ((hi.length:Int)=lo.length)=true then (0:Int) else 10) else if decide (1≤fac∧fac≤100)=true then (0:Int) else 2)=jE hi lo full fac:=by
  unfold jE;rw [hsf,Bool.true_and]
  by_cases h:hi.length=lo.length
  ·have h':(hi.length:Int)=lo.length:=by omega
   simp [h,h']
  ·have h':¬ (hi.length:Int)=lo.length:=by omega
   simp [h,h']
 rw [he]
 by_cases h0:jE hi lo full fac=0
 case neg =>
  obtain ⟨b1,b2⟩:=bad h0
  simp only [h0,b1,b2,zi,vZ,Int.reduceEq,Int.reduceNe,Int.reduceLT,Int.reduceLE,Nat.reduceEqDiff,Nat.reduceAdd,reduceIte,reduceCtorEq,Nat.reduceLT,Nat.reduceLeDiff,Nat.reduceShiftRight,Nat.reduceMod]
  intro _ k hk;simp [refsL,refs,upd] at hk;subst hk;simp [upd]
 obtain ⟨j1,j2,j3,j4,j5⟩:=jE_ok h0
 obtain ⟨g1,g2,h3⟩:=smE_ok j1
 obtain ⟨g4,g5,h6⟩:=smE_ok j2
 have hJ2:jE2 hi lo full fac=if (jl hi lo full fac hi.length).all smp then 0 else 8:=by unfold jE2;rw [if_neg (by simp [h0])]
 rw [h0]
 simp only [vZ,Int.reduceEq,Int.reduceNe,Int.reduceLT,Int.reduceLE,Nat.reduceEqDiff,Nat.reduceAdd,reduceIte,reduceCtorEq,Nat.reduceLT,Nat.reduceLeDiff,Nat.reduceShiftRight,Nat.reduceMod]
 refine ⟨by intro _ k hk;simp [refsL,refs,upd] at hk;subst hk;simp [upd],?_⟩
 refine W_loop (t:=.mk) (α:=PSigma fun i:Nat=>i≤hi.length) (fun ⟨i,_⟩=>(envOf [(4,.ptr 4 0 0),(5,.ptr 5 0 0),(6,.ptr 6 0 0),(9,.buf 100 i),(42,.sl (ints hi)),(43,.int .i64 hi.length),(44,.int .i64 i)],
  stOf [(4,⟨51,1,[.agg [.sl (ints lo)]]⟩),(5,⟨126,2,[.agg [.int .i64 full,.int .i64 fac]]⟩),(6,⟨51,1,[.agg [.sl []]]⟩),(100,⟨3,1,ints (jl hi lo full fac i)⟩)])) (fun p=>hi.length - p.1) ⟨0,Nat.zero_le _⟩ ?_ (fun ⟨i,hii⟩=>?_)
 ·have z1:ints (jl hi lo full fac 0)=[]:=rfl
  refine weakX [(100,none)] (of_decide_eq_true rfl) (of_decide_eq_true rfl) ?_
  (simp only [z1,vcW,vZ,Int.reduceEq,Int.reduceNe,Int.reduceLT,Int.reduceLE,Nat.reduceEqDiff,Nat.reduceAdd,reduceIte,reduceCtorEq,Nat.reduceLT,Nat.reduceLeDiff,Nat.reduceShiftRight,Nat.reduceMod])
  (repeat' first | exact trivial | (with_reducible first | exact RnB.fxB (ints_fxB _) | rfl | refine And.intro ?_ ?_) | (with_reducible (first | refine RnB.bb ?_ | refine RnB.nb ?_);simp only [vcW,vZ,Int.reduceEq,Int.reduceNe,Int.reduceLT,Int.reduceLE,Nat.reduceEqDiff,Nat.reduceAdd,reduceIte,reduceCtorEq,Nat.reduceLT,Nat.reduceLeDiff,Nat.reduceShiftRight,Nat.reduceMod]) | (with_reducible first | refine RnB.ii ?_ | refine RnB.app ?_) | (with_reducible refine RnB.fxB ?_;simp only [vcW,vZ,Int.reduceEq,Int.reduceNe,Int.reduceLT,Int.reduceLE,Nat.reduceEqDiff,Nat.reduceAdd,reduceIte,reduceCtorEq,Nat.reduceLT,Nat.reduceLeDiff,Nat.reduceShiftRight,Nat.reduceMod]) | omega)
  all_goals exact RnB.an
 ·dsimp only at hii ⊢
  by_cases h':i<hi.length
  ·have h5:(i:Int)<hi.length:=by omega
   have hx:=h3 hi[i] (List.getElem_mem h')
   have hy:=h6 (lo[i]'(by omega)) (List.getElem_mem _)
   have hm:=mul_abs (s:=lo[i]'(by omega)) (k:=fac) (K:=100) (M:=10000) (by omega) (by omega) (by omega)
   have hln:(ints (jl hi lo full fac i)).length=i:=by rw [ints_length,jl_len]
   have hs:jl hi lo full fac (i+1)=jl hi lo full fac i ++ [jv hi lo full fac i]:=rfl
   have hjv:jv hi lo full fac i=if full≤hi[i] then (lo[i]'(by omega)) * fac else hi[i]:=by unfold jv;rw [getD_at h',getD_at (show i<lo.length by omega)]
   by_cases hf:full≤hi[i]
   ·rw [if_pos hf] at hjv
    rw [hjv] at hs
    have hia:ints (jl hi lo full fac i ++ [(lo[i]'(by omega)) * fac])=ints (jl hi lo full fac i) ++ [.int .i64 ((lo[i]'(by omega)) * fac)]:=ints_append _ _
    have hlt2:(i:Int)<lo.length:=by omega
    simp only [h5,ints_get hi i h',hf,ints_get lo i (by omega),hln,vZ,Int.reduceEq,Int.reduceNe,Int.reduceLT,Int.reduceLE,Nat.reduceEqDiff,Nat.reduceAdd,reduceIte,reduceCtorEq,Nat.reduceLT,Nat.reduceLeDiff,Nat.reduceShiftRight,Nat.reduceMod]
    (repeat (with_reducible refine And.intro ?_ ?_;focus (first | omega | (unfold I64;omega))))
    refine ⟨⟨i+1,h'⟩,by simp only;omega,?_⟩
    refine weakX [(100,some 64)] (of_decide_eq_true rfl) (of_decide_eq_true rfl) ?_
    (simp only [hs,hia,hln,vcW,vZ,Int.reduceEq,Int.reduceNe,Int.reduceLT,Int.reduceLE,Nat.reduceEqDiff,Nat.reduceAdd,reduceIte,reduceCtorEq,Nat.reduceLT,Nat.reduceLeDiff,Nat.reduceShiftRight,Nat.reduceMod])
    (repeat' first | exact trivial | (with_reducible first | exact RnB.fxB (ints_fxB _) | rfl | refine And.intro ?_ ?_) | (with_reducible (first | refine RnB.bb ?_ | refine RnB.nb ?_);simp only [vcW,vZ,Int.reduceEq,Int.reduceNe,Int.reduceLT,Int.reduceLE,Nat.reduceEqDiff,Nat.reduceAdd,reduceIte,reduceCtorEq,Nat.reduceLT,Nat.reduceLeDiff,Nat.reduceShiftRight,Nat.reduceMod]) | (with_reducible first | refine RnB.ii ?_ | refine RnB.app ?_) | (with_reducible refine RnB.fxB ?_;simp only [vcW,vZ,Int.reduceEq,Int.reduceNe,Int.reduceLT,Int.reduceLE,Nat.reduceEqDiff,Nat.reduceAdd,reduceIte,reduceCtorEq,Nat.reduceLT,Nat.reduceLeDiff,Nat.reduceShiftRight,Nat.reduceMod]) | omega)
    all_goals first | exact hia.symm | exact RnB.fxB (by rw [← hia];exact ints_fxB _) | skip
   ·rw [if_neg hf] at hjv
    rw [hjv] at hs
    have hia:ints (jl hi lo full fac i ++ [hi[i]])=ints (jl hi lo full fac i) ++ [.int .i64 hi[i]]:=ints_append _ _
    simp only [h5,ints_get hi i h',hf,hln,vZ,Int.reduceEq,Int.reduceNe,Int.reduceLT,Int.reduceLE,Nat.reduceEqDiff,Nat.reduceAdd,reduceIte,reduceCtorEq,Nat.reduceLT,Nat.reduceLeDiff,Nat.reduceShiftRight,Nat.reduceMod]
    (repeat (with_reducible refine And.intro ?_ ?_;focus (first | omega | (unfold I64;omega))))
    refine ⟨⟨i+1,h'⟩,by simp only;omega,?_⟩
    refine weakX [(100,some 64)] (of_decide_eq_true rfl) (of_decide_eq_true rfl) ?_
    (simp only [hs,hia,hln,vcW,vZ,Int.reduceEq,Int.reduceNe,Int.reduceLT,Int.reduceLE,Nat.reduceEqDiff,Nat.reduceAdd,reduceIte,reduceCtorEq,Nat.reduceLT,Nat.reduceLeDiff,Nat.reduceShiftRight,Nat.reduceMod])
    (repeat' first | exact trivial | (with_reducible first | exact RnB.fxB (ints_fxB _) | rfl | refine And.intro ?_ ?_) | (with_reducible (first | refine RnB.bb ?_ | refine RnB.nb ?_);simp only [vcW,vZ,Int.reduceEq,Int.reduceNe,Int.reduceLT,Int.reduceLE,Nat.reduceEqDiff,Nat.reduceAdd,reduceIte,reduceCtorEq,Nat.reduceLT,Nat.reduceLeDiff,Nat.reduceShiftRight,Nat.reduceMod]) | (with_reducible first | refine RnB.ii ?_ | refine RnB.app ?_) | (with_reducible refine RnB.fxB ?_;simp only [vcW,vZ,Int.reduceEq,Int.reduceNe,Int.reduceLT,Int.reduceLE,Nat.reduceEqDiff,Nat.reduceAdd,reduceIte,reduceCtorEq,Nat.reduceLT,Nat.reduceLeDiff,Nat.reduceShiftRight,Nat.reduceMod]) | omega)
    all_goals first | exact hia.symm | exact RnB.fxB (by rw [← hia];exact ints_fxB _) | skip
  ·have h5:¬ (i:Int)<hi.length:=by omega
   have hin:i=hi.length:=by omega
   subst hin
   have hln:=jl_len hi lo full fac hi.length
   have hO:jO hi lo full fac=if jE2 hi lo full fac=0 then jl hi lo full fac hi.length else []:=rfl
   generalize hoo:jl hi lo full fac hi.length=o at *
   have hbor:∀ (s:Store) (n ty:Nat),borB s (n+1) hi.length (some (some ⟨ty,1,ints o⟩))=.sl (ints o):=fun s n ty=>borB_good _ _ _ _ _ (by rw [ints_length];exact hln.symm) (ints_fx _)
   have hC:=contFunc_int_s o 141 [] (fun n=>!smp n) (by omega) (by simp) (fun x _=>Joined_1_s x)
   rw [not_all] at hC
   simp only [h5,hbor,vZ,Int.reduceEq,Int.reduceNe,Int.reduceLT,Int.reduceLE,Nat.reduceEqDiff,Nat.reduceAdd,reduceIte,reduceCtorEq,Nat.reduceLT,Nat.reduceLeDiff,Nat.reduceShiftRight,Nat.reduceMod]
   refine callS_of hC ?_
   cases hall:o.all smp with
   | true =>
    rw [hall,if_pos rfl] at hJ2
    rw [hJ2,if_pos rfl] at hO
    simp only [hJ2,hO,hbor,vZ,Int.reduceEq,Int.reduceNe,Int.reduceLT,Int.reduceLE,Nat.reduceEqDiff,Nat.reduceAdd,reduceIte,reduceCtorEq,Nat.reduceLT,Nat.reduceLeDiff,Nat.reduceShiftRight,Nat.reduceMod]
   | false =>
    rw [hall,if_neg (by decide)] at hJ2
    rw [hJ2,if_neg (by decide)] at hO
    simp only [hJ2,hO,zi,vZ,Int.reduceEq,Int.reduceNe,Int.reduceLT,Int.reduceLE,Nat.reduceEqDiff,Nat.reduceAdd,reduceIte,reduceCtorEq,Nat.reduceLT,Nat.reduceLeDiff,Nat.reduceShiftRight,Nat.reduceMod]
end Go.Proofs.YtpaklfjlbocfcaaGreatDoor

/- Contracts of functions without a body: bits.Add64,bits.Sub64. By an AI agent;nothing here is trusted. -/
namespace Go.Proofs.YtpaklfjlbocfcaaGreatDoor
open Go.Av
open Go.RowKit (Below)

theorem args3 {h:Array Obj} {ok:Nat→Prop} {cargs:Array Value} {a b c:Int} (hlen:cargs.size=3) (hargs:∀ (i:Nat) (x:AV),[AV.int .u64 a,.int .u64 b,.int .u64 c][i]?=some x→VR h ok noPlace noStore x (cargs.getD i undef)) :
  cargs=#[.int .u64 a,.int .u64 b,.int .u64 c]:=by
 have h0:=hargs 0 _ rfl
 have h1:=hargs 1 _ rfl
 have h2:=hargs 2 _ rfl
 have e0:cargs.getD 0 undef=.int .u64 a:=by generalize cargs.getD 0 undef=v at *;cases h0;rfl
 have e1:cargs.getD 1 undef=.int .u64 b:=by generalize cargs.getD 1 undef=v at *;cases h1;rfl
 have e2:cargs.getD 2 undef=.int .u64 c:=by generalize cargs.getD 2 undef=v at *;cases h2;rfl
 apply Array.ext
 ·simpa using hlen
 ·intro i hi1 hi2
  simp at hi2
  have:i=0∨i=1∨i=2:=by omega
  rcases this with rfl | rfl | rfl
  ·simpa [Array.getD,hi1] using e0
  ·simpa [Array.getD,hi1] using e1
  ·simpa [Array.getD,hi1] using e2
theorem tup2 {h:Array Obj} {ok:Nat→Prop} (a b:Int):VR h ok noPlace noStore (.tup [.int .u64 a,.int .u64 b]) (.tuple #[.int .u64 a,.int .u64 b]):=by
 refine .tup _ _ rfl fun i c hc=>?_
 match i with
 | 0=>simp at hc;subst hc;exact .int _ _
 | 1=>simp at hc;subst hc;exact .int _ _
 | i+2=>simp at hc
theorem Add64_s (x y c:Int) (hx:0≤x) (hy:0≤y) (hc:0≤c∧c≤1):Sound Tryz.prog 183 [.int .u64 x,.int .u64 y,.int .u64 c]
  (.tup [.int .u64 ((x+y+c) % 18446744073709551616),.int .u64 ((x+y+c) / 18446744073709551616)]):=by
 intro w ok cargs hok _ hlen hargs
 rw [args3 (by simpa using hlen) hargs]
 refine .inl ⟨_,w,?_,Below.refl _ _,tup2 _ _⟩
 rw [run_callFunc_extern Tryz.func183 (by kernel_rfl) (by kernel_rfl) (by kernel_rfl) (e:=add64Entry) (by kernel_rfl),run_add64 x y c hx hy hc.1 hc.2]
 rfl
theorem Sub64_s (x y b:Nat) (hb:b≤1):Sound Tryz.prog 184 [.int .u64 (x:Int),.int .u64 (y:Int),.int .u64 (b:Int)]
  (.tup [.int .u64 (((x+18446744073709551616 - y - b) % 18446744073709551616:Nat):Int),.int .u64 ((if x<y+b then 1 else 0:Nat):Int)]):=by
 intro w ok cargs hok _ hlen hargs
 rw [args3 (by simpa using hlen) hargs]
 refine .inl ⟨_,w,?_,Below.refl _ _,tup2 _ _⟩
 rw [run_callFunc_extern Tryz.func184 (by kernel_rfl) (by kernel_rfl) (by kernel_rfl) (e:=sub64Entry) (by kernel_rfl),run_sub64 x y b hb]
 rfl
end Go.Proofs.YtpaklfjlbocfcaaGreatDoor

/- Numbers of a sign and 128 bits. By an AI agent;nothing here is trusted. -/
namespace Go.Proofs.YtpaklfjlbocfcaaGreatDoor
open Go.Av

def wdA (b:Bool) (n:Nat):AV:=.agg [.bool b,.int .u64 ((n / 18446744073709551616:Nat):Int),.int .u64 ((n % 18446744073709551616:Nat):Int)]
def wdV (b:Bool) (n:Nat):Int:=if b then -(n:Int) else n
def W128 (n:Nat):Prop:=n<340282366920938463463374607431768211456
theorem u64_mod (n:Int):IntKind.u64.wrap n=n % 18446744073709551616:=by simp [IntKind.wrap,IntKind.bits,IntKind.signed]
theorem u64_wrap {n:Int} (h:0≤n∧n<18446744073709551616):IntKind.u64.wrap n=n:=by
 rw [u64_mod];omega
theorem pwideOf_s (n:Int) (hn:S63 n):Sound Tryz.prog 134 [.int .i64 n] (wdA (decide (n<0)) n.natAbs):=by
 refine sound_W f_pulse_wideOf (Nat.le_of_ble_eq_true rfl) ?_
 unfold S63 at hn
 have h1:max n (-n)=(n.natAbs:Int):=by omega
 have h2:IntKind.u64.wrap (n.natAbs:Int)=(n.natAbs:Int):=u64_wrap (by omega)
 have h3:n.natAbs / 18446744073709551616=0:=Nat.div_eq_of_lt (by omega)
 have h4:n.natAbs % 18446744073709551616=n.natAbs:=Nat.mod_eq_of_lt (by omega)
 unfold wdA
 rw [h3,h4]
 simp only [c_pulse_wideOf,max_neg,vZ,Int.reduceEq,Int.reduceNe,Int.reduceLT,Int.reduceLE,Nat.reduceEqDiff,Nat.reduceAdd,reduceIte,reduceCtorEq,Nat.reduceLT,Nat.reduceLeDiff,Nat.reduceShiftRight,Nat.reduceMod]
 refine ⟨by unfold I64;omega,?_⟩
 rw [h2]
 rfl
theorem isZero_s (b:Bool) (n:Nat) (hn:W128 n):Sound Tryz.prog 203 [wdA b n] (.bool (decide (n=0))):=by
 refine sound_W f_pulse_wide_isZero (Nat.le_of_ble_eq_true rfl) ?_
 unfold W128 at hn
 unfold wdA
 have e:=Nat.div_add_mod n 18446744073709551616
 by_cases h1:((n / 18446744073709551616:Nat):Int)=0
 ·simp only [c_pulse_wide_isZero,h1,vZ,Int.reduceEq,Int.reduceNe,Int.reduceLT,Int.reduceLE,Nat.reduceEqDiff,Nat.reduceAdd,reduceIte,reduceCtorEq,Nat.reduceLT,Nat.reduceLeDiff,Nat.reduceShiftRight,Nat.reduceMod]
  exact bool_eq (by omega)
 ·have h0:¬ n=0:=by omega
  simp only [c_pulse_wide_isZero,h1,h0,vZ,Int.reduceEq,Int.reduceNe,Int.reduceLT,Int.reduceLE,Nat.reduceEqDiff,Nat.reduceAdd,reduceIte,reduceCtorEq,Nat.reduceLT,Nat.reduceLeDiff,Nat.reduceShiftRight,Nat.reduceMod]
theorem isLess_s (a b:Bool) (m n:Nat):Sound Tryz.prog 139 [wdA a m,wdA b n] (.bool (decide (m<n))):=by
 refine sound_W f_pulse_wide_isLess (Nat.le_of_ble_eq_true rfl) ?_
 unfold wdA
 have em:=Nat.div_add_mod m 18446744073709551616
 have en:=Nat.div_add_mod n 18446744073709551616
 have lm:=Nat.mod_lt m (show 18446744073709551616 > 0 by omega)
 have ln:=Nat.mod_lt n (show 18446744073709551616 > 0 by omega)
 generalize m / 18446744073709551616=mh at *
 generalize m % 18446744073709551616=ml at *
 generalize n / 18446744073709551616=nh at *
 generalize n % 18446744073709551616=nl at *
 by_cases h1:(mh:Int)<nh
 ·have h:m<n:=by omega
  simp only [c_pulse_wide_isLess,h1,h,vZ,Int.reduceEq,Int.reduceNe,Int.reduceLT,Int.reduceLE,Nat.reduceEqDiff,Nat.reduceAdd,reduceIte,reduceCtorEq,Nat.reduceLT,Nat.reduceLeDiff,Nat.reduceShiftRight,Nat.reduceMod]
 ·by_cases h2:(mh:Int)=nh
  ·have h1':¬ (nh:Int)<nh:=by omega
   by_cases h3:(ml:Int)<nl
   ·have h:m<n:=by omega
    simp only [c_pulse_wide_isLess,h2,h1',h3,h,vZ,Int.reduceEq,Int.reduceNe,Int.reduceLT,Int.reduceLE,Nat.reduceEqDiff,Nat.reduceAdd,reduceIte,reduceCtorEq,Nat.reduceLT,Nat.reduceLeDiff,Nat.reduceShiftRight,Nat.reduceMod]
   ·have h:¬ m<n:=by omega
    simp only [c_pulse_wide_isLess,h2,h1',h3,h,vZ,Int.reduceEq,Int.reduceNe,Int.reduceLT,Int.reduceLE,Nat.reduceEqDiff,Nat.reduceAdd,reduceIte,reduceCtorEq,Nat.reduceLT,Nat.reduceLeDiff,Nat.reduceShiftRight,Nat.reduceMod]
  ·have h:¬ m<n:=by omega
   simp only [c_pulse_wide_isLess,h1,h2,h,vZ,Int.reduceEq,Int.reduceNe,Int.reduceLT,Int.reduceLE,Nat.reduceEqDiff,Nat.reduceAdd,reduceIte,reduceCtorEq,Nat.reduceLT,Nat.reduceLeDiff,Nat.reduceShiftRight,Nat.reduceMod]
theorem negated_s (b:Bool) (n:Nat):Sound Tryz.prog 179 [wdA b n] (wdA (!b) n):=by
 refine sound_W f_pulse_wide_negated (Nat.le_of_ble_eq_true rfl) ?_
 unfold wdA
 simp only [c_pulse_wide_negated,vZ,Int.reduceEq,Int.reduceNe,Int.reduceLT,Int.reduceLE,Nat.reduceEqDiff,Nat.reduceAdd,reduceIte,reduceCtorEq,Nat.reduceLT,Nat.reduceLeDiff,Nat.reduceShiftRight,Nat.reduceMod]
end Go.Proofs.YtpaklfjlbocfcaaGreatDoor

/- Products and sums of numbers of 128 bits. By an AI agent;nothing here is trusted. -/
namespace Go.Proofs.YtpaklfjlbocfcaaGreatDoor
open Go.Av

theorem and32 (x:Nat) (h:x<18446744073709551616):IntKind.u64.wrap ((((BitVec.ofInt IntKind.u64.bits (x:Int)) &&& (BitVec.ofInt IntKind.u64.bits 4294967295)).toNat:Nat):Int)=((x % 4294967296:Nat):Int):=by
 have h1:((BitVec.ofInt IntKind.u64.bits (x:Int)) &&& (BitVec.ofInt IntKind.u64.bits 4294967295)).toNat=x % 4294967296:=by
  rw [BitVec.toNat_and]
  have e1:(BitVec.ofInt IntKind.u64.bits (x:Int)).toNat=x:=by
   rw [BitVec.toNat_ofInt]
   show ((x:Int) % ((2 ^ 64:Nat):Int)).toNat=x
   omega
  have e2:(BitVec.ofInt IntKind.u64.bits 4294967295).toNat=2 ^ 32 - 1:=by decide
  rw [e1,e2,Nat.and_two_pow_sub_one_eq_mod]
 rw [h1,u64_mod]
 omega
theorem shr32 (x:Nat):(x:Int).fdiv (2 ^ min (Int.toNat 32) IntKind.u64.bits)=((x / 4294967296:Nat):Int):=by
 show (x:Int).fdiv 4294967296=_
 rw [Int.fdiv_eq_ediv_of_nonneg _ (by omega)]
 omega
theorem Mul64_s (x y:Nat) (hx:x<18446744073709551616) (hy:y<18446744073709551616):Sound Tryz.prog 185 [.int .u64 x,.int .u64 y] (.tup [.int .u64 ((x * y / 18446744073709551616:Nat):Int),.int .u64 ((x * y % 18446744073709551616:Nat):Int)]):=by
 refine sound_W f_math_bits_Mul64 (Nat.le_of_ble_eq_true rfl) ?_
 obtain ⟨m1,m2,m3,m4⟩:=Go.Lib.mul64_hi x y hx hy
 have ha:=Go.Lib.half_mul_le (a:=x / 4294967296) (b:=y / 4294967296) (by omega) (by omega)
 have hb:=Go.Lib.half_mul_le (a:=x / 4294967296) (b:=y % 4294967296) (by omega) (by omega)
 have hc:=Go.Lib.half_mul_le (a:=x % 4294967296) (b:=y / 4294967296) (by omega) (by omega)
 have hq:x * y / 18446744073709551616<18446744073709551616:=Nat.div_lt_of_lt_mul (Nat.mul_lt_mul'' hx hy)
 have wm:∀ a b:Nat,a * b<18446744073709551616→IntKind.u64.wrap ((a:Int) * b)=((a * b:Nat):Int):=fun a b h=>by rw [← Int.natCast_mul];exact u64_wrap (by omega)
 have wa:∀ a b:Nat,a+b<18446744073709551616→IntKind.u64.wrap ((a:Int)+b)=((a+b:Nat):Int):=fun a b h=>by rw [← Int.natCast_add];exact u64_wrap (by omega)
 have w9:IntKind.u64.wrap ((x:Int) * y)=((x * y % 18446744073709551616:Nat):Int):=by rw [u64_mod,← Int.natCast_mul];omega
 have a1:=and32 x hx
 have a2:=and32 y hy
 have s1:=shr32 x
 have s2:=shr32 y
 rw [← m4] at hq ⊢
 generalize x % 4294967296=x0 at *
 generalize x / 4294967296=x1 at *
 generalize y % 4294967296=y0 at *
 generalize y / 4294967296=y1 at *
 have w1:=wm x0 y0 m1
 have w2:=wm x1 y0 (by omega)
 have s3:=shr32 (x0 * y0)
 have w3:=wa (x1 * y0) (x0 * y0 / 4294967296) m2
 have a3:=and32 _ m2
 have s4:=shr32 (x1 * y0+x0 * y0 / 4294967296)
 generalize x1 * y0+x0 * y0 / 4294967296=u at *
 have w4:=wm x0 y1 (by omega)
 have w5:=wa (u % 4294967296) (x0 * y1) m3
 have s5:=shr32 (u % 4294967296+x0 * y1)
 generalize u % 4294967296+x0 * y1=v at *
 have w6:=wm x1 y1 (by omega)
 have w7:=wa (x1 * y1) (u / 4294967296) (by omega)
 have w8:=wa (x1 * y1+u / 4294967296) (v / 4294967296) (by omega)
 simp only [c_math_bits_Mul64,a1,a2,s1,s2,w1,w2,s3,w3,a3,s4,w4,w5,s5,w6,w7,w8,w9,vZ,Int.reduceEq,Int.reduceNe,Int.reduceLT,Int.reduceLE,Nat.reduceEqDiff,Nat.reduceAdd,reduceIte,reduceCtorEq,Nat.reduceLT,Nat.reduceLeDiff,Nat.reduceShiftRight,Nat.reduceMod]
theorem times_s (b:Bool) (m:Nat) (k:Int) (hk:S63 k) (hb:W128 (m * k.natAbs)) (hm:W128 m):Sound Tryz.prog 135 [wdA b m,.int .i64 k] (wdA (b != decide (k<0)) (m * k.natAbs)):=by
 refine sound_W f_pulse_wide_times (Nat.le_of_ble_eq_true rfl) ?_
 unfold S63 at hk
 unfold W128 at hb hm
 have h1:max k (-k)=(k.natAbs:Int):=by omega
 have h2:IntKind.u64.wrap (k.natAbs:Int)=(k.natAbs:Int):=u64_wrap (by omega)
 have hM:=Mul64_s (m % 18446744073709551616) k.natAbs (Nat.mod_lt _ (by omega)) (by omega)
 have em:=Nat.div_add_mod m 18446744073709551616
 have hlt:=Nat.mod_lt m (show 18446744073709551616 > 0 by omega)
 unfold wdA
 generalize m / 18446744073709551616=mh at *
 generalize m % 18446744073709551616=ml at *
 generalize hs:k.natAbs=s at *
 have e1:m * s=18446744073709551616 * (mh * s)+ml * s:=by rw [← em,Nat.add_mul,Nat.mul_assoc]
 have q1:m * s / 18446744073709551616=ml * s / 18446744073709551616+mh * s:=by rw [e1];omega
 have q2:m * s % 18446744073709551616=ml * s % 18446744073709551616:=by rw [e1];omega
 rw [q1,q2]
 have w1:IntKind.u64.wrap ((mh:Int) * s)=((mh * s:Nat):Int):=by rw [← Int.natCast_mul];exact u64_wrap (by omega)
 have w2:IntKind.u64.wrap (((ml * s / 18446744073709551616:Nat):Int)+((mh * s:Nat):Int))=((ml * s / 18446744073709551616+mh * s:Nat):Int):=by rw [← Int.natCast_add];exact u64_wrap (by omega)
 simp only [c_pulse_wide_times,max_neg,vZ,Int.reduceEq,Int.reduceNe,Int.reduceLT,Int.reduceLE,Nat.reduceEqDiff,Nat.reduceAdd,reduceIte,reduceCtorEq,Nat.reduceLT,Nat.reduceLeDiff,Nat.reduceShiftRight,Nat.reduceMod]
 refine ⟨by unfold I64;omega,?_⟩
 simp only [hs,h2]
 refine callS_of hM ?_
 simp only [hs,h2,w1,w2,vZ,Int.reduceEq,Int.reduceNe,Int.reduceLT,Int.reduceLE,Nat.reduceEqDiff,Nat.reduceAdd,reduceIte,reduceCtorEq,Nat.reduceLT,Nat.reduceLeDiff,Nat.reduceShiftRight,Nat.reduceMod]
 cases b <;> cases decide (k<0) <;> rfl
theorem plus_same_s (b:Bool) (m n:Nat) (h:W128 (m+n)):Sound Tryz.prog 133 [wdA b m,wdA b n] (wdA b (m+n)):=by
 refine sound_W f_pulse_wide_plus (Nat.le_of_ble_eq_true rfl) ?_
 unfold W128 at h
 have em:=Nat.div_add_mod m 18446744073709551616
 have en:=Nat.div_add_mod n 18446744073709551616
 have lm:=Nat.mod_lt m (show 18446744073709551616 > 0 by omega)
 have ln:=Nat.mod_lt n (show 18446744073709551616 > 0 by omega)
 have hA:=Add64_s ((m % 18446744073709551616:Nat):Int) ((n % 18446744073709551616:Nat):Int) 0 (by omega) (by omega) (by omega)
 unfold wdA
 have q1:(m+n) / 18446744073709551616=m / 18446744073709551616+n / 18446744073709551616+(m % 18446744073709551616+n % 18446744073709551616) / 18446744073709551616:=by omega
 have q2:(m+n) % 18446744073709551616=(m % 18446744073709551616+n % 18446744073709551616) % 18446744073709551616:=by omega
 rw [q1,q2]
 generalize m / 18446744073709551616=mh at *
 generalize m % 18446744073709551616=ml at *
 generalize n / 18446744073709551616=nh at *
 generalize n % 18446744073709551616=nl at *
 have e1:((ml:Int)+nl+0) / 18446744073709551616=(((ml+nl) / 18446744073709551616:Nat):Int):=by omega
 have e2:((ml:Int)+nl+0) % 18446744073709551616=(((ml+nl) % 18446744073709551616:Nat):Int):=by omega
 rw [e1,e2] at hA
 have w1:IntKind.u64.wrap ((mh:Int)+nh)=((mh+nh:Nat):Int):=by rw [← Int.natCast_add];exact u64_wrap (by omega)
 have w2:IntKind.u64.wrap (((mh+nh:Nat):Int)+(((ml+nl) / 18446744073709551616:Nat):Int))=((mh+nh+(ml+nl) / 18446744073709551616:Nat):Int):=by rw [← Int.natCast_add];exact u64_wrap (by omega)
 simp only [c_pulse_wide_plus,vZ,Int.reduceEq,Int.reduceNe,Int.reduceLT,Int.reduceLE,Nat.reduceEqDiff,Nat.reduceAdd,reduceIte,reduceCtorEq,Nat.reduceLT,Nat.reduceLeDiff,Nat.reduceShiftRight,Nat.reduceMod]
 refine callS_of hA ?_
 simp only [w1,w2,vZ,Int.reduceEq,Int.reduceNe,Int.reduceLT,Int.reduceLE,Nat.reduceEqDiff,Nat.reduceAdd,reduceIte,reduceCtorEq,Nat.reduceLT,Nat.reduceLeDiff,Nat.reduceShiftRight,Nat.reduceMod]
theorem plus_other_s (b:Bool) (m n:Nat) (hm:W128 m) (hn:W128 n):Sound Tryz.prog 133 [wdA b m,wdA (!b) n] (if m<n then wdA (!b) (n - m) else wdA b (m - n)):=by
 refine sound_W f_pulse_wide_plus (Nat.le_of_ble_eq_true rfl) ?_
 unfold W128 at hm hn
 have em:=Nat.div_add_mod m 18446744073709551616
 have en:=Nat.div_add_mod n 18446744073709551616
 have lm:=Nat.mod_lt m (show 18446744073709551616 > 0 by omega)
 have ln:=Nat.mod_lt n (show 18446744073709551616 > 0 by omega)
 have hL:=isLess_s b (!b) m n
 have hS1:=Sub64_s (m % 18446744073709551616) (n % 18446744073709551616) 0 (by omega)
 have hS2:=Sub64_s (n % 18446744073709551616) (m % 18446744073709551616) 0 (by omega)
 have key:∀ x y:Nat,y≤x→x<340282366920938463463374607431768211456 →
   IntKind.u64.wrap (IntKind.u64.wrap (((x / 18446744073709551616:Nat):Int) - ((y / 18446744073709551616:Nat):Int)) - ((if x % 18446744073709551616<y % 18446744073709551616+0 then 1 else 0:Nat):Int))=(((x - y) / 18446744073709551616:Nat):Int) ∧
   (x % 18446744073709551616+18446744073709551616 - y % 18446744073709551616 - 0) % 18446744073709551616=(x - y) % 18446744073709551616:=by
  intro x y hxy hx
  rw [u64_mod,u64_mod]
  split <;> omega
 unfold wdA at hL ⊢
 by_cases hlt:m<n
 ·obtain ⟨k1,k2⟩:=key n m (by omega) hn
  rw [if_pos hlt]
  rw [decide_eq_true hlt] at hL
  rw [k2] at hS2
  cases b
  all_goals
   simp only [c_pulse_wide_plus,vZ,Int.reduceEq,Int.reduceNe,Int.reduceLT,Int.reduceLE,Nat.reduceEqDiff,Nat.reduceAdd,reduceIte,reduceCtorEq,Nat.reduceLT,Nat.reduceLeDiff,Nat.reduceShiftRight,Nat.reduceMod]
   refine callS_of hL ?_
   simp only [vZ,Int.reduceEq,Int.reduceNe,Int.reduceLT,Int.reduceLE,Nat.reduceEqDiff,Nat.reduceAdd,reduceIte,reduceCtorEq,Nat.reduceLT,Nat.reduceLeDiff,Nat.reduceShiftRight,Nat.reduceMod]
   refine callS_of hS2 ?_
   simp only [k1,vZ,Int.reduceEq,Int.reduceNe,Int.reduceLT,Int.reduceLE,Nat.reduceEqDiff,Nat.reduceAdd,reduceIte,reduceCtorEq,Nat.reduceLT,Nat.reduceLeDiff,Nat.reduceShiftRight,Nat.reduceMod]
 ·obtain ⟨k1,k2⟩:=key m n (by omega) hm
  rw [if_neg hlt]
  rw [decide_eq_false hlt] at hL
  rw [k2] at hS1
  cases b
  all_goals
   simp only [c_pulse_wide_plus,vZ,Int.reduceEq,Int.reduceNe,Int.reduceLT,Int.reduceLE,Nat.reduceEqDiff,Nat.reduceAdd,reduceIte,reduceCtorEq,Nat.reduceLT,Nat.reduceLeDiff,Nat.reduceShiftRight,Nat.reduceMod]
   refine callS_of hL ?_
   simp only [vZ,Int.reduceEq,Int.reduceNe,Int.reduceLT,Int.reduceLE,Nat.reduceEqDiff,Nat.reduceAdd,reduceIte,reduceCtorEq,Nat.reduceLT,Nat.reduceLeDiff,Nat.reduceShiftRight,Nat.reduceMod]
   refine callS_of hS1 ?_
   simp only [k1,vZ,Int.reduceEq,Int.reduceNe,Int.reduceLT,Int.reduceLE,Nat.reduceEqDiff,Nat.reduceAdd,reduceIte,reduceCtorEq,Nat.reduceLT,Nat.reduceLeDiff,Nat.reduceShiftRight,Nat.reduceMod]
end Go.Proofs.YtpaklfjlbocfcaaGreatDoor

/- Determinants in plain Lean. By an AI agent;nothing here is trusted. -/
namespace Go.Lin

def sm (n:Nat) (f:Nat→Rat):Rat:=match n with
 | 0=>0
 | n+1=>sm n f+f n
theorem sm_zero (f:Nat→Rat):sm 0 f=0:=rfl
theorem sm_succ (n:Nat) (f:Nat→Rat):sm (n+1) f=sm n f+f n:=rfl
theorem sm_congr {n:Nat} {f g:Nat→Rat} (h:∀ i,i<n→f i=g i):sm n f=sm n g:=by
 induction n with
 | zero=>rfl
 | succ n ih=>rw [sm_succ,sm_succ,ih (fun i hi=>h i (by omega)),h n (by omega)]
theorem sm_add (n:Nat) (f g:Nat→Rat):sm n (fun i=>f i+g i)=sm n f+sm n g:=by
 induction n with
 | zero=>simp only [sm_zero];grind
 | succ n ih=>rw [sm_succ,sm_succ,sm_succ,ih];grind
theorem sm_mul (n:Nat) (a:Rat) (f:Nat→Rat):sm n (fun i=>a * f i)=a * sm n f:=by
 induction n with
 | zero=>simp [sm]
 | succ n ih=>rw [sm_succ,sm_succ,ih];grind
theorem sm_mul' (n:Nat) (a:Rat) (f:Nat→Rat):sm n (fun i=>f i * a)=sm n f * a:=by
 induction n with
 | zero=>simp [sm]
 | succ n ih=>rw [sm_succ,sm_succ,ih];grind
theorem sm_none {n:Nat} {f:Nat→Rat} (h:∀ i,i<n→f i=0):sm n f=0:=by
 induction n with
 | zero=>rfl
 | succ n ih=>rw [sm_succ,ih (fun i hi=>h i (by omega)),h n (by omega)];grind
theorem sm_one {n:Nat} {f:Nat→Rat} {j:Nat} (hj:j<n) (h:∀ i,i<n→i ≠ j→f i=0):sm n f=f j:=by
 induction n with
 | zero=>omega
 | succ n ih =>
  rw [sm_succ]
  by_cases e:j=n
  ·subst e;rw [sm_none (fun i hi=>h i (by omega) (by omega))];grind
  ·rw [ih (by omega) (fun i hi hij=>h i (by omega) hij),h n (by omega) (by omega)];grind
theorem sm_swap (n m:Nat) (f:Nat→Nat→Rat):sm n (fun i=>sm m (fun k=>f i k))=sm m (fun k=>sm n (fun i=>f i k)):=by
 induction n with
 | zero=>rw [sm_zero];exact (sm_none (n:=m) (fun i _=>rfl)).symm
 | succ n ih=>rw [sm_succ,ih,← sm_add];exact sm_congr fun k _=>(sm_succ _ _).symm

def sg (i:Nat):Rat:=if i % 2=0 then 1 else -1
theorem sg_succ (i:Nat):sg (i+1) = - sg i:=by
 unfold sg
 by_cases h:i % 2=0
 ·rw [if_pos h,if_neg (by omega)]
 ·rw [if_neg h,if_pos (by omega)];grind
def skip (i r:Nat):Nat:=if r<i then r else r+1

def dt:Nat→(Nat→Nat→Rat)→Rat
 | 0,_=>1
 | n+1,a=>sm (n+1) fun i=>sg i * a i 0 * dt n fun r c=>a (skip i r) (c+1)
theorem skip_lt {i r n:Nat} (hr:r<n):skip i r<n+1:=by unfold skip;split <;> omega
theorem dt_congr:∀ {n:Nat} {a b:Nat→Nat→Rat},(∀ r c,r<n→c<n→a r c=b r c)→dt n a=dt n b
 | 0,_,_,_=>rfl
 | n+1,a,b,h=>sm_congr fun i hi=>by
  rw [h i 0 hi (by omega),dt_congr (n:=n) fun r c hr hc=>h (skip i r) (c+1) (skip_lt hr) (by omega)]

def setc (a:Nat→Nat→Rat) (j:Nat) (u:Nat→Rat):Nat→Nat→Rat:=fun r c=>if c=j then u r else a r c
theorem setc_at (a:Nat→Nat→Rat) (j:Nat) (u:Nat→Rat) (r:Nat):setc a j u r j=u r:=by simp [setc]
theorem setc_of (a:Nat→Nat→Rat) {j c:Nat} (u:Nat→Rat) (r:Nat) (h:c ≠ j):setc a j u r c=a r c:=by simp [setc,h]

theorem dt_lin:∀ {n:Nat} (a:Nat→Nat→Rat) (j:Nat) (x y:Rat) (u v:Nat→Rat),j<n →
  dt n (setc a j fun r=>x * u r+y * v r)=x * dt n (setc a j u)+y * dt n (setc a j v)
 | 0,_,_,_,_,_,_,h=>by omega
 | n+1,a,0,x,y,u,v,_=>by
  have hm:∀ (w:Nat→Rat) (i:Nat),dt n (fun r c=>setc a 0 w (skip i r) (c+1))=dt n (fun r c=>a (skip i r) (c+1)):=fun w i=>dt_congr fun r c _ _=>setc_of a w _ (by omega)
  simp only [dt,hm,setc_at]
  rw [← sm_mul,← sm_mul,← sm_add]
  exact sm_congr fun i _=>by grind
 | n+1,a,j+1,x,y,u,v,h=>by
  have hm:∀ (w:Nat→Rat) (i:Nat),dt n (fun r c=>setc a (j+1) w (skip i r) (c+1))=dt n (setc (fun r c=>a (skip i r) (c+1)) j fun r=>w (skip i r)):=fun w i=>dt_congr fun r c _ _=>by
   simp [setc]
  simp only [dt,hm]
  have h0:∀ (w:Nat→Rat) (i:Nat),setc a (j+1) w i 0=a i 0:=fun w i=>setc_of a w i (by omega)
  simp only [h0]
  rw [← sm_mul,← sm_mul,← sm_add]
  refine sm_congr fun i _=>?_
  rw [dt_lin (n:=n) _ j x y (fun r=>u (skip i r)) (fun r=>v (skip i r)) (by omega)]
  grind

theorem pairs (f:Nat→Nat→Rat):∀ n,sm (n+1) (fun i=>sm n (fun k=>f i k))=sm n (fun k=>sm (k+1) fun i=>f i k+f (k+1) i)
 | 0=>by simp [sm];grind
 | n+1=>by
  have ih:=pairs f n
  rw [sm_succ]
  have h1:sm (n+1) (fun i=>sm (n+1) fun k=>f i k)=sm (n+1) (fun i=>sm n (fun k=>f i k))+sm (n+1) (fun i=>f i n):=by
   rw [← sm_add];exact sm_congr fun i _=>sm_succ _ _
  rw [h1,ih,sm_succ n (fun k=>sm (k+1) fun i=>f i k+f (k+1) i),sm_add]
  grind
theorem skip_skip {i k r:Nat} (h:i≤k):skip i (skip k r)=skip (k+1) (skip i r):=by
 unfold skip
 repeat' split
 all_goals omega
theorem skip_eq {i k:Nat} (h:i≤k):skip i k=k+1:=by unfold skip;rw [if_neg (by omega)]
theorem skip_lo {i k:Nat} (h:i≤k):skip (k+1) i=i:=by unfold skip;rw [if_pos (by omega)]
theorem dt_adj:∀ {n:Nat} (a:Nat→Nat→Rat) (j:Nat),j+1<n→(∀ r,r<n→a r j=a r (j+1))→dt n a=0
 | 0,_,_,h,_=>by omega
 | 1,_,_,h,_=>by omega
 | n+2,a,0,_,h=>by
  have e:dt (n+2) a=sm (n+2) fun i=>sm (n+1) fun k=>sg i * a i 0 * (sg k * a (skip i k) 1 * dt n fun r c=>a (skip i (skip k r)) (c+2)):=by
   show sm (n+2) (fun i=>sg i * a i 0 * sm (n+1) _)=_
   exact sm_congr fun i _=>(sm_mul _ _ _).symm
  rw [e,pairs (fun i k=>sg i * a i 0 * (sg k * a (skip i k) 1 * dt n fun r c=>a (skip i (skip k r)) (c+2)))]
  refine sm_none fun k hk=>sm_none fun i hi=>?_
  have hik:i≤k:=by omega
  have hd:(dt n fun r c=>a (skip i (skip k r)) (c+2))=dt n fun r c=>a (skip (k+1) (skip i r)) (c+2):=by
   congr 1;funext r c;rw [skip_skip hik]
  rw [hd,skip_eq hik,skip_lo hik,sg_succ,h i (by omega),h (k+1) (by omega)]
  grind
 | n+2,a,j+1,hj,h=>by
  refine sm_none fun i _=>?_
  rw [dt_adj (n:=n+1) (fun r c=>a (skip i r) (c+1)) j (by omega) (fun r hr=>h (skip i r) (skip_lt hr))]
  grind

theorem setc_same {n:Nat} (a:Nat→Nat→Rat) (j:Nat):dt n (setc a j fun r=>a r j)=dt n a:=dt_congr fun r c _ _=>by
 unfold setc;split
 ·rename_i h;rw [h]
 ·rfl
theorem dt_swap {n:Nat} (a:Nat→Nat→Rat) (j:Nat) (hj:j+1<n) (u v:Nat→Rat) :
  dt n (setc (setc a j u) (j+1) v) = - dt n (setc (setc a j v) (j+1) u):=by
 have key:∀ w:Nat→Rat,dt n (setc (setc a j w) (j+1) w)=0:=fun w=>dt_adj _ j hj fun r _=>by simp [setc]
 have comm:∀ w z:Nat→Rat,setc (setc a j w) (j+1) z=setc (setc a (j+1) z) j w:=fun w z=>by
  funext r c;unfold setc;split
  ·split
   ·omega
   ·rfl
  ·rfl
 have h0:=key fun r=>1 * u r+1 * v r
 rw [dt_lin _ (j+1) 1 1 u v hj,comm,comm,dt_lin _ j 1 1 u v (by omega),dt_lin _ j 1 1 u v (by omega),← comm,← comm,← comm,← comm,key u,key v] at h0
 grind
theorem dt_alt {n:Nat}:∀ (d j:Nat) (a:Nat→Nat→Rat),j+1+d<n→(∀ r,r<n→a r j=a r (j+1+d))→dt n a=0
 | 0,j,a,hj,h=>dt_adj a j hj h
 | d+1,j,a,hj,h=>by
  have e1:dt n a=dt n (setc (setc a (j+1+d) fun r=>a r (j+1+d)) (j+1+d+1) fun r=>a r (j+1+d+1)):=dt_congr fun r c _ _=>by
   unfold setc;split
   ·rename_i h;rw [h]
   ·split
    ·rename_i h;rw [h]
    ·rfl
  rw [e1,dt_swap a (j+1+d) hj]
  rw [dt_alt d j _ (by omega) (fun r hr=>?_)]
  ·grind
  ·rw [setc_of _ _ _ (by omega),setc_of _ _ _ (by omega),setc_of _ _ _ (by omega),setc_at]
   exact h r hr
theorem dt_two {n:Nat} (a:Nat→Nat→Rat) {j k:Nat} (hj:j<n) (hk:k<n) (hjk:j ≠ k) (h:∀ r,r<n→a r j=a r k):dt n a=0:=by
 by_cases e:j<k
 ·exact dt_alt (k - j - 1) j a (by omega) (fun r hr=>by rw [h r hr];congr 1;omega)
 ·exact dt_alt (j - k - 1) k a (by omega) (fun r hr=>by rw [← h r hr];congr 1;omega)

theorem cramer {n:Nat} (a:Nat→Nat→Rat) (b x:Nat→Rat) (hx:∀ r,r<n→sm n (fun c=>a r c * x c)=b r) {j:Nat} (hj:j<n):dt n (setc a j b)=x j * dt n a:=by
 have h1:∀ m,m≤n→dt n (setc a j fun r=>sm m fun c=>a r c * x c)=sm m fun c=>x c * dt n (setc a j fun r=>a r c):=by
  intro m hm
  induction m with
  | zero =>
   have:=dt_lin a j 0 0 (fun _=>0) (fun _=>0) hj
   have e:dt n (setc a j fun r=>sm 0 fun c=>a r c * x c)=dt n (setc a j fun r=>0 * (0:Rat)+0 * 0):=dt_congr fun r c _ _=>by
    unfold setc;split
    ·simp only [sm_zero];grind
    ·rfl
   rw [e,this];simp only [sm_zero];grind
  | succ m ih =>
   have:=dt_lin a j 1 (x m) (fun r=>sm m fun c=>a r c * x c) (fun r=>a r m) hj
   have e:dt n (setc a j fun r=>sm (m+1) fun c=>a r c * x c)=dt n (setc a j fun r=>1 * (sm m fun c=>a r c * x c)+x m * a r m):=dt_congr fun r c _ _=>by
    unfold setc;split
    ·simp only [sm_succ];grind
    ·rfl
   rw [e,this,ih (by omega),sm_succ];grind
 have h2:dt n (setc a j b)=dt n (setc a j fun r=>sm n fun c=>a r c * x c):=dt_congr fun r c hr _=>by
  unfold setc;split
  ·exact (hx r hr).symm
  ·rfl
 rw [h2,h1 n (Nat.le_refl _),sm_one hj (fun c hc hcj=>?_),setc_same]
 rw [dt_two (setc a j fun r=>a r c) hj hc (fun h=>hcj h.symm) (fun r _=>by rw [setc_at,setc_of _ _ _ hcj])]
 grind
end Go.Lin

/- Equations solved by elimination,in plain Lean. By an AI agent;nothing here is trusted. -/
namespace Go.Lin

def ker (n:Nat) (m:Nat→Nat→Rat) (x:Nat→Rat):Prop:=∀ r,r<n→sm (n+1) (fun c=>m r c * x c)=0
def swr (m:Nat→Nat→Rat) (c a:Nat):Nat→Nat→Rat:=fun r k=>m (if r=c then a else if r=a then c else r) k
def elK (m:Nat→Nat→Rat) (i c:Nat) (q:Rat) (K:Nat):Nat→Nat→Rat:=fun r k=>if r=i∧c≤k∧k<K then m i k - q * m c k else m r k
theorem ker_swr {n:Nat} {m:Nat→Nat→Rat} {c a:Nat} (hc:c<n) (ha:a<n) (x:Nat→Rat):ker n (swr m c a) x ↔ ker n m x:=by
 constructor
 ·intro h r hr
  by_cases e1:r=c
  ·have:=h a ha
   unfold swr at this
   by_cases e2:a=c
   ·rw [if_pos e2] at this;rw [e1,← e2];exact this
   ·rw [if_neg e2,if_pos rfl] at this;rw [e1];exact this
  ·by_cases e2:r=a
   ·have:=h c hc
    unfold swr at this
    rw [if_pos rfl] at this;rw [e2];exact this
   ·have:=h r hr
    unfold swr at this
    rw [if_neg e1,if_neg e2] at this;exact this
 ·intro h r hr
  unfold swr
  by_cases e1:r=c
  ·rw [if_pos e1];exact h a ha
  ·rw [if_neg e1]
   by_cases e2:r=a
   ·rw [if_pos e2];exact h c hc
   ·rw [if_neg e2];exact h r hr
theorem ker_el {n:Nat} {m:Nat→Nat→Rat} {i c:Nat} {q:Rat} (hi:i<n) (hc:c<n) (hic:i ≠ c) (h0:∀ k,k<c→m c k=0) (x:Nat→Rat) :
  ker n (elK m i c q (n+1)) x ↔ ker n m x:=by
 have e:sm (n+1) (fun k=>elK m i c q (n+1) i k * x k)=sm (n+1) (fun k=>m i k * x k) + -q * sm (n+1) (fun k=>m c k * x k):=by
  rw [← sm_mul,← sm_add]
  refine sm_congr fun k hk=>?_
  unfold elK
  by_cases hck:c≤k
  ·rw [if_pos ⟨rfl,hck,hk⟩];grind
  ·rw [if_neg (fun h=>hck h.2.1),h0 k (by omega)];grind
 have e':∀ r,r ≠ i→sm (n+1) (fun k=>elK m i c q (n+1) r k * x k)=sm (n+1) (fun k=>m r k * x k):=fun r hr=>sm_congr fun k _=>by
  unfold elK;rw [if_neg (fun h=>hr h.1)]
 constructor
 ·intro h r hr
  by_cases hri:r=i
  ·subst hri
   have h1:=h r hr
   have h2:=h c hc
   rw [e] at h1
   rw [e' c (fun h=>hic h.symm)] at h2
   rw [h2] at h1;grind
  ·have:=h r hr;rw [e' r hri] at this;exact this
 ·intro h r hr
  by_cases hri:r=i
  ·subst hri;rw [e,h r hr,h c hc];grind
  ·rw [e' r hri];exact h r hr

def diagd (n:Nat) (m:Nat→Nat→Rat) (c:Nat):Prop:=∀ j,j<c→m j j ≠ 0∧∀ i,i<n→i ≠ j→m i j=0
def trivK (n:Nat) (a:Nat→Nat→Rat):Prop:=∀ x:Nat→Rat,(∀ r,r<n→sm n (fun c=>a r c * x c)=0)→∀ i,i<n→x i=0
theorem ker_triv {n:Nat} {a:Nat→Nat→Rat} {b:Nat→Rat} (h:trivK n a) {x:Nat→Rat} (hx:ker n (fun r c=>if c=n then b r else a r c) x) (hn:x n=0):∀ i,i<n→x i=0:=by
 refine h x fun r hr=>?_
 have:=hx r hr
 dsimp only at this
 rw [sm_succ,if_pos rfl,hn] at this
 rw [← sm_congr (f:=fun c=>(if c=n then b r else a r c) * x c) (fun c hc=>by rw [if_neg (by omega)])]
 grind
theorem no_pivot {n:Nat} {m:Nat→Nat→Rat} {c:Nat} (hc:c<n) (hd:diagd n m c) (h0:∀ i,c≤i→i<n→m i c=0):∃ x:Nat→Rat,ker n m x∧x n=0∧x c ≠ 0:=by
 refine ⟨fun j=>if j<c then -(m j c / m j j) else if j=c then 1 else 0,?_,?_,?_⟩
 ·intro r hr
  by_cases hrc:r<c
  ·have e:sm (n+1) (fun k=>m r k * (if k<c then -(m k c / m k k) else if k=c then 1 else 0))=sm (n+1) (fun k=>(if k=r then -(m r c) else 0)+(if k=c then m r c else 0)):=by
    refine sm_congr fun k hk=>?_
    by_cases h1:k=r
    ·subst h1
     rw [if_pos hrc,if_pos rfl,if_neg (by omega)]
     have:=(hd k hrc).1
     grind
    ·rw [if_neg h1]
     by_cases h2:k<c
     ·rw [if_pos h2,if_neg (by omega),(hd k h2).2 r hr (fun h=>h1 h.symm)];grind
     ·rw [if_neg h2]
      by_cases h3:k=c
      ·subst h3;rw [if_pos rfl,if_pos rfl];grind
      ·rw [if_neg h3,if_neg h3];grind
   rw [e,sm_add,sm_one (j:=r) (by omega) (fun i _ h=>by rw [if_neg h]),sm_one (j:=c) (by omega) (fun i _ h=>by rw [if_neg h]),if_pos rfl,if_pos rfl]
   grind
  ·refine sm_none fun k hk=>?_
   dsimp only
   by_cases h2:k<c
   ·rw [(hd k h2).2 r hr (by omega)];grind
   ·rw [if_neg h2]
    by_cases h3:k=c
    ·subst h3;rw [if_pos rfl,h0 r (by omega) hr];grind
    ·rw [if_neg h3];grind
 ·dsimp only;rw [if_neg (by omega),if_neg (by omega)]
 ·dsimp only;rw [if_neg (by omega),if_pos rfl];decide
theorem diag_sol {n:Nat} {m:Nat→Nat→Rat} (hd:diagd n m n):ker n m (fun j=>if j<n then m j n / m j j else -1):=by
 intro r hr
 have e:sm (n+1) (fun k=>m r k * (if k<n then m k n / m k k else -1))=sm (n+1) (fun k=>(if k=r then m r n else 0)+(if k=n then -(m r n) else 0)):=by
  refine sm_congr fun k hk=>?_
  by_cases h1:k=r
  ·subst h1
   rw [if_pos hr,if_pos rfl,if_neg (by omega)]
   have:=(hd k hr).1
   grind
  ·rw [if_neg h1]
   by_cases h2:k<n
   ·rw [if_pos h2,if_neg (by omega),(hd k h2).2 r hr (fun h=>h1 h.symm)];grind
   ·rw [if_neg h2]
    have h3:k=n:=by omega
    subst h3;rw [if_pos rfl];grind
 rw [e,sm_add,sm_one (j:=r) (by omega) (fun i _ h=>by rw [if_neg h]),sm_one (j:=n) (by omega) (fun i _ h=>by rw [if_neg h]),if_pos rfl,if_pos rfl]
 grind
theorem ker_sol {n:Nat} {a:Nat→Nat→Rat} {b x:Nat→Rat} (h:ker n (fun r c=>if c=n then b r else a r c) x) (hn:x n = -1):∀ r,r<n→sm n (fun c=>a r c * x c)=b r:=by
 intro r hr
 have:=h r hr
 dsimp only at this
 rw [sm_succ,if_pos rfl,hn] at this
 rw [← sm_congr (f:=fun c=>(if c=n then b r else a r c) * x c) (fun c hc=>by rw [if_neg (by omega)])]
 grind
theorem diag_step {n:Nat} {m:Nat→Nat→Rat} {c:Nat} (hc:c<n) (hd:diagd n m c) (hp:m c c ≠ 0) (hz:∀ i,i<n→i ≠ c→m i c=0):diagd n m (c+1):=by
 intro j hj
 by_cases h:j=c
 ·subst h;exact ⟨hp,hz⟩
 ·exact hd j (by omega)
theorem diag_el {n:Nat} {m:Nat→Nat→Rat} {c i:Nat} {q:Rat} (K:Nat) (hc:c<n) (hic:i ≠ c) (hd:diagd n m c):diagd n (elK m i c q K) c:=by
 intro j hj
 have h1:∀ r,elK m i c q K r j=m r j:=fun r=>by unfold elK;rw [if_neg (fun h=>by omega)]
 rw [h1]
 exact ⟨(hd j hj).1,fun r hr hrj=>by rw [h1];exact (hd j hj).2 r hr hrj⟩
theorem diag_swr {n:Nat} {m:Nat→Nat→Rat} {c a:Nat} (hc:c<n) (hca:c≤a) (ha:a<n) (hd:diagd n m c):diagd n (swr m c a) c:=by
 intro j hj
 have h1:swr m c a j j=m j j:=by unfold swr;rw [if_neg (by omega),if_neg (by omega)]
 rw [h1]
 refine ⟨(hd j hj).1,fun r hr hrj=>?_⟩
 unfold swr
 by_cases e1:r=c
 ·rw [if_pos e1];exact (hd j hj).2 a ha (by omega)
 ·rw [if_neg e1]
  by_cases e2:r=a
  ·rw [if_pos e2];exact (hd j hj).2 c hc (by omega)
  ·rw [if_neg e2];exact (hd j hj).2 r hr hrj

theorem elim_all {n:Nat} (c:Nat) (hc:c<n):∀ (K:Nat) (m:Nat→Nat→Rat),K≤n→diagd n m c→m c c ≠ 0→∃ m',diagd n m' c∧m' c c ≠ 0∧(∀ i,i<K→i ≠ c→m' i c=0)∧∀ x,ker n m' x ↔ ker n m x
 | 0,m,_,hd,hp=>⟨m,hd,hp,fun i hi=>by omega,fun x=>Iff.rfl⟩
 | K+1,m,hK,hd,hp=>by
  obtain ⟨m',h1,h2,h3,h4⟩:=elim_all c hc K m (by omega) hd hp
  by_cases e:K=c
  ·exact ⟨m',h1,h2,fun i hi hic=>h3 i (by omega) hic,h4⟩
  ·have hcc:elK m' K c (m' K c / m' c c) (n+1) c c=m' c c:=by unfold elK;rw [if_neg (fun h=>e h.1.symm)]
   refine ⟨elK m' K c (m' K c / m' c c) (n+1),diag_el _ hc e h1,by rw [hcc];exact h2,fun i hi hic=>?_,fun x=>(ker_el (by omega) hc e (fun k hk=>(h1 k hk).2 c hc (by omega)) x).trans (h4 x)⟩
   by_cases hiK:i=K
   ·subst hiK;unfold elK;rw [if_pos ⟨rfl,Nat.le_refl _,by omega⟩];grind
   ·unfold elK;rw [if_neg (fun h=>hiK h.1)];exact h3 i (by omega) hic
theorem gauss {n:Nat} {a:Nat→Nat→Rat} (ht:trivK n a) (b:Nat→Rat):∀ c,c≤n→∃ m,diagd n m c∧∀ x,ker n m x ↔ ker n (fun r c=>if c=n then b r else a r c) x
 | 0,_=>⟨_,fun j hj=>by omega,fun x=>Iff.rfl⟩
 | c+1,hc=>by
  obtain ⟨m,h1,h2⟩:=gauss ht b c (by omega)
  by_cases hz:∀ i,c≤i→i<n→m i c=0
  ·obtain ⟨x,g1,g2,g3⟩:=no_pivot hc h1 hz
   exact absurd (ker_triv ht ((h2 x).1 g1) g2 c hc) g3
  ·have:∃ i,c≤i∧i<n∧m i c ≠ 0:=Classical.byContradiction fun h=>hz fun i h1 h2=>Classical.byContradiction fun h3=>h ⟨i,h1,h2,h3⟩
   obtain ⟨i,g1,g2,g3⟩:=this
   have hcc:swr m c i c c=m i c:=by unfold swr;rw [if_pos rfl]
   obtain ⟨m',k1,k2,k3,k4⟩:=elim_all c hc n (swr m c i) (Nat.le_refl _) (diag_swr hc g1 g2 h1) (by rw [hcc];exact g3)
   exact ⟨m',diag_step hc k1 k2 k3,fun x=>(k4 x).trans ((ker_swr hc g2 x).trans (h2 x))⟩
theorem solvable {n:Nat} {a:Nat→Nat→Rat} (ht:trivK n a) (b:Nat→Rat):∃ x:Nat→Rat,∀ r,r<n→sm n (fun c=>a r c * x c)=b r:=by
 obtain ⟨m,h1,h2⟩:=gauss ht b n (Nat.le_refl _)
 exact ⟨_,ker_sol ((h2 _).1 (diag_sol h1)) (by rw [if_neg (by omega)])⟩

def posD (n:Nat) (a:Nat→Nat→Rat):Prop:=∀ x:Nat→Rat,(∃ i,i<n∧x i ≠ 0)→0<sm n (fun r=>x r * sm n (fun c=>a r c * x c))
theorem posD.triv {n:Nat} {a:Nat→Nat→Rat} (h:posD n a):trivK n a:=by
 intro x hx i hi
 refine Classical.byContradiction fun hne=>?_
 have:=h x ⟨i,hi,hne⟩
 rw [sm_none (fun r hr=>by rw [hx r hr];grind)] at this
 grind
theorem sm_first (n:Nat) (f:Nat→Rat):sm (n+1) f=f 0+sm n fun i=>f (i+1):=by
 induction n with
 | zero=>simp only [sm];grind
 | succ n ih=>rw [sm_succ,ih,sm_succ];grind
theorem posD.tail {n:Nat} {a:Nat→Nat→Rat} (h:posD (n+1) a):posD n fun r c=>a (r+1) (c+1):=by
 intro x ⟨i,hi,hx⟩
 have:=h (fun j=>if j=0 then 0 else x (j - 1)) ⟨i+1,by omega,by rw [if_neg (by omega)];simpa using hx⟩
 rw [sm_first,if_pos rfl] at this
 have e:sm n (fun r=>(if r+1=0 then 0 else x (r+1 - 1)) * sm (n+1) (fun c=>a (r+1) c * (if c=0 then 0 else x (c - 1))))=sm n (fun r=>x r * sm n (fun c=>a (r+1) (c+1) * x c)):=by
  refine sm_congr fun r _=>?_
  rw [if_neg (by omega),Nat.add_sub_cancel,sm_first,if_pos rfl]
  congr 1
  have:sm n (fun i=>a (r+1) (i+1) * (if i+1=0 then 0 else x (i+1 - 1)))=sm n fun c=>a (r+1) (c+1) * x c:=sm_congr fun c _=>by rw [if_neg (by omega),Nat.add_sub_cancel]
  rw [this];grind
 rw [e] at this
 grind
theorem posD.det:∀ {n:Nat} {a:Nat→Nat→Rat},posD n a→0<dt n a
 | 0,_,_=>by show (0:Rat)<1;decide
 | n+1,a,h=>by
  obtain ⟨y,hy⟩:=solvable h.triv (fun r=>if r=0 then 1 else 0)
  have h1:=cramer a _ y hy (show 0<n+1 by omega)
  have h2:dt (n+1) (setc a 0 fun r=>if r=0 then 1 else 0)=dt n fun r c=>a (r+1) (c+1):=by
   show sm (n+1) _=_
   rw [sm_one (j:=0) (by omega) (fun i _ hi=>by rw [setc_at,if_neg hi];grind)]
   have:(dt n fun r c=>setc a 0 (fun r=>if r=0 then 1 else 0) (skip 0 r) (c+1))=dt n fun r c=>a (r+1) (c+1):=dt_congr fun r c _ _=>by
    rw [setc_of _ _ _ (by omega)];unfold skip;rw [if_neg (by omega)]
   rw [this,setc_at,if_pos rfl]
   have:sg 0=1:=by decide
   rw [this];grind
  have h3:=h.tail.det
  rw [h2] at h1
  have h4:∃ i,i<n+1∧y i ≠ 0:=by
   refine Classical.byContradiction fun hn=>?_
   have h0:∀ i,i<n+1→y i=0:=fun i hi=>Classical.byContradiction fun hne=>hn ⟨i,hi,hne⟩
   have:=hy 0 (by omega)
   rw [sm_none (fun c hc=>by rw [h0 c hc];grind),if_pos rfl] at this
   exact absurd this (by decide)
  have h5:=h y h4
  rw [sm_congr (g:=fun r=>if r=0 then y 0 else 0) (fun r hr=>by rw [hy r hr];by_cases e:r=0 <;> simp [e] <;> grind),sm_one (j:=0) (by omega) (fun i _ hi=>by rw [if_neg hi]),if_pos rfl] at h5
  rw [h1] at h3
  refine Classical.byContradiction fun hneg=>?_
  have h6:dt (n+1) a≤0:=by grind
  have h7:y 0 * dt (n+1) a≤0:=by
   have:=Rat.mul_le_mul_of_nonneg_left h6 (Rat.le_of_lt h5)
   grind
  grind
end Go.Lin

/- Shifted templates and their products,in plain Lean. By an AI agent;nothing here is trusted. -/
namespace Go.Lin

def itm (items:List Int) (n k:Nat):Int:=if k≤n∧n - k<items.length then items.getD (n - k) 0 else 0
def smI (n:Nat) (f:Nat→Int):Int:=match n with
 | 0=>0
 | n+1=>smI n f+f n
theorem smI_congr {n:Nat} {f g:Nat→Int} (h:∀ i,i<n→f i=g i):smI n f=smI n g:=by
 induction n with
 | zero=>rfl
 | succ n ih=>rw [smI,smI,ih (fun i hi=>h i (by omega)),h n (by omega)]
theorem smI_cast (n:Nat) (f:Nat→Int):((smI n f:Int):Rat)=sm n fun i=>((f i:Int):Rat):=by
 induction n with
 | zero=>rfl
 | succ n ih=>rw [smI,sm_succ,Rat.intCast_add,ih]
def gr (items:List Int) (N k m:Nat):Int:=smI N fun n=>itm items n k * itm items n m
theorem gram_sq (t N:Nat) (f:Nat→Nat→Rat) (x:Nat→Rat) :
  sm t (fun r=>x r * sm t (fun c=>(sm N fun n=>f n r * f n c) * x c))=sm N fun n=>(sm t fun r=>x r * f n r) * (sm t fun r=>x r * f n r):=by
 have e:∀ r,x r * sm t (fun c=>(sm N fun n=>f n r * f n c) * x c)=sm N fun n=>x r * f n r * sm t fun c=>x c * f n c:=by
  intro r
  rw [← sm_mul]
  have:∀ c,x r * ((sm N fun n=>f n r * f n c) * x c)=sm N fun n=>x r * f n r * (x c * f n c):=fun c=>by
   rw [← sm_mul',← sm_mul];exact sm_congr fun n _=>by grind
  simp only [this]
  rw [sm_swap]
  exact sm_congr fun n _=>sm_mul _ _ _
 simp only [e]
 rw [sm_swap]
 exact sm_congr fun n _=>sm_mul' _ _ _
theorem sm_nn {n:Nat} {f:Nat→Rat} (h:∀ i,i<n→0≤f i):0≤sm n f:=by
 induction n with
 | zero=>exact Rat.le_refl
 | succ n ih=>rw [sm_succ];have:=ih (fun i hi=>h i (by omega));have:=h n (by omega);grind
theorem sm_pos {n:Nat} {f:Nat→Rat} (h:∀ i,i<n→0≤f i) {j:Nat} (hj:j<n) (hp:0<f j):0<sm n f:=by
 induction n with
 | zero=>omega
 | succ n ih =>
  rw [sm_succ]
  by_cases e:j=n
  ·subst e;have:=sm_nn (n:=j) (f:=f) (fun i hi=>h i (by omega));grind
  ·have:=ih (fun i hi=>h i (by omega)) (by omega);have:=h n (by omega);grind
theorem sq_nn (a:Rat):0≤a * a:=by
 by_cases h:0≤a
 ·exact Rat.mul_nonneg h h
 ·have:0 ≤ -a:=by grind
  have:=Rat.mul_nonneg this this
  grind
theorem sq_pos {a:Rat} (h:a ≠ 0):0<a * a:=by
 have:=sq_nn a
 refine Classical.byContradiction fun hn=>?_
 have:a * a=0:=by grind
 rcases Rat.mul_eq_zero.1 this with h1 | h1 <;> exact h h1
theorem least {p:Nat→Prop} {n:Nat} (h:p n):∃ m,m≤n∧p m∧∀ i,i<m→¬ p i:=by
 induction n using Nat.strongRecOn with
 | ind n ih =>
  by_cases hq:∃ i,i<n∧p i
  ·obtain ⟨i,h1,h2⟩:=hq
   obtain ⟨m,g1,g2,g3⟩:=ih i h1 h2
   exact ⟨m,by omega,g2,g3⟩
  ·exact ⟨n,Nat.le_refl _,h,fun i hi hpi=>hq ⟨i,hi,hpi⟩⟩
theorem gram_posD {items:List Int} (hne:∃ x ∈ items,x ≠ 0) {S:Nat} {t:Nat} {T:Nat→Nat} (hT:∀ r,r<t→T r<S) (hm:∀ r c,r<c→c<t→T r<T c) :
  posD t fun r c=>((gr items (S+items.length - 1) (T r) (T c):Int):Rat):=by
 intro x ⟨i,hi,hx⟩
 obtain ⟨y,hy,hy0⟩:=hne
 obtain ⟨j,hj,rfl⟩:=List.getElem_of_mem hy
 obtain ⟨i0,a1,a2,a3⟩:=least (p:=fun i=>x i ≠ 0) hx
 obtain ⟨j0,b1,b2,b3⟩:=least (p:=fun j=>items.getD j 0 ≠ 0) (n:=j) (by simpa [List.getD,hj] using hy0)
 have e:∀ r c,((gr items (S+items.length - 1) (T r) (T c):Int):Rat)=sm (S+items.length - 1) fun n=>((itm items n (T r):Int):Rat) * ((itm items n (T c):Int):Rat):=fun r c=>by
  rw [gr,smI_cast];exact sm_congr fun n _=>Rat.intCast_mul _ _
 simp only [e]
 rw [gram_sq t _ (fun n r=>((itm items n (T r):Int):Rat)) x]
 have hTi:=hT i0 (by omega)
 refine sm_pos (fun n _=>sq_nn _) (show T i0+j0<S+items.length - 1 by omega) (sq_pos ?_)
 rw [sm_one (j:=i0) (by omega) (fun r hr hri=>?_)]
 ·have e0:itm items (T i0+j0) (T i0)=items.getD j0 0:=by
   unfold itm;rw [if_pos ⟨by omega,by omega⟩,Nat.add_sub_cancel_left]
  rw [e0]
  intro h0
  rcases Rat.mul_eq_zero.1 h0 with h1 | h1
  ·exact a2 h1
  ·exact b2 (by exact_mod_cast h1)
 ·by_cases hlt:r<i0
  ·have:x r=0:=Classical.byContradiction fun h=>a3 r hlt h
   rw [this];grind
  ·have hlt':=hm i0 r (by omega) hr
   have:itm items (T i0+j0) (T r)=0:=by
    unfold itm
    split
    ·rename_i h
     exact Classical.byContradiction fun h'=>b3 (T i0+j0 - T r) (by omega) h'
    ·rfl
   rw [this];grind

def sgI (i:Nat):Int:=if i % 2=0 then 1 else -1
def dtI:Nat→(Nat→Nat→Int)→Int
 | 0,_=>1
 | n+1,a=>smI (n+1) fun i=>sgI i * a i 0 * dtI n fun r c=>a (skip i r) (c+1)
theorem dtI_cast:∀ (n:Nat) (a:Nat→Nat→Int),((dtI n a:Int):Rat)=dt n fun r c=>((a r c:Int):Rat)
 | 0,_=>rfl
 | n+1,a=>by
  rw [dtI,dt,smI_cast]
  refine sm_congr fun i _=>?_
  rw [Rat.intCast_mul,Rat.intCast_mul,dtI_cast n]
  congr 2
  unfold sgI sg
  split <;> rfl
theorem dtI_congr:∀ {n:Nat} {a b:Nat→Nat→Int},(∀ r c,r<n→c<n→a r c=b r c)→dtI n a=dtI n b
 | 0,_,_,_=>rfl
 | n+1,a,b,h=>smI_congr fun i hi=>by
  rw [h i 0 hi (by omega),dtI_congr (n:=n) fun r c hr hc=>h (skip i r) (c+1) (skip_lt hr) (by omega)]
theorem smI_bd {n:Nat} {f:Nat→Int} {M:Int} (h:∀ i,i<n → -M≤f i∧f i≤M) : -(n * M)≤smI n f∧smI n f≤n * M:=by
 induction n with
 | zero=>simp [smI]
 | succ n ih =>
  have:=ih (fun i hi=>h i (by omega))
  have:=h n (by omega)
  rw [smI,show ((n+1:Nat):Int) * M=n * M+M by grind]
  omega
end Go.Lin

/- The best charges,in plain Lean. By an AI agent;nothing here is trusted. -/
namespace Go.Lin

section
variable (items:List Int) (S N:Nat) (s:Nat→Rat)
def md (x:Nat→Rat) (n:Nat):Rat:=sm S fun k=>x k * ((itm items n k:Int):Rat)
def grad (x:Nat→Rat) (k:Nat):Rat:=sm N fun n=>(s n - md items S x n) * ((itm items n k:Int):Rat)
def best (x:Nat→Rat):Prop:=∀ k,k<S→0≤x k∧grad items S N s x k≤0∧x k * grad items S N s x k=0
variable {items S N s}

theorem md_sub (x y:Nat→Rat) (n:Nat):md items S (fun k=>x k - y k) n=md items S x n - md items S y n:=by
 unfold md
 have:sm S (fun k=>(x k - y k) * ((itm items n k:Int):Rat))=sm S (fun k=>x k * ((itm items n k:Int):Rat)+(-1) * (y k * ((itm items n k:Int):Rat))):=sm_congr fun k _=>by grind
 rw [this,sm_add,sm_mul];grind
theorem grad_dot (x d:Nat→Rat):sm S (fun k=>d k * grad items S N s x k)=sm N fun n=>(s n - md items S x n) * md items S d n:=by
 unfold grad
 have e:∀ k,d k * sm N (fun n=>(s n - md items S x n) * ((itm items n k:Int):Rat))=sm N fun n=>(s n - md items S x n) * (d k * ((itm items n k:Int):Rat)):=fun k=>by
  rw [← sm_mul];exact sm_congr fun n _=>by grind
 simp only [e]
 rw [sm_swap]
 exact sm_congr fun n _=>sm_mul _ _ _
theorem sm_sub (n:Nat) (f g:Nat→Rat):sm n (fun i=>f i - g i)=sm n f - sm n g:=by
 have:sm n (fun i=>f i - g i)=sm n (fun i=>f i+(-1) * g i):=sm_congr fun i _=>by grind
 rw [this,sm_add,sm_mul];grind
theorem md_form (x:Nat→Rat):sm S (fun r=>x r * sm S (fun c=>((gr items N r c:Int):Rat) * x c))=sm N fun n=>md items S x n * md items S x n:=by
 have e:∀ r c,((gr items N r c:Int):Rat)=sm N fun n=>((itm items n r:Int):Rat) * ((itm items n c:Int):Rat):=fun r c=>by
  rw [gr,smI_cast];exact sm_congr fun n _=>Rat.intCast_mul _ _
 simp only [e]
 exact gram_sq S N _ x
theorem best_uniq (hN:N=S+items.length - 1) (hne:∃ x ∈ items,x ≠ 0) {x y:Nat→Rat} (hx:best items S N s x) (hy:best items S N s y):∀ k,k<S→x k=y k:=by
 have hP:=gram_posD hne (S:=S) (t:=S) (T:=fun k=>k) (fun r h=>h) (fun r c h _=>h)
 rw [← hN] at hP
 refine Classical.byContradiction fun hn=>?_
 have hd:∃ k,k<S∧x k - y k ≠ 0:=Classical.byContradiction fun h=>hn fun k hk=>Classical.byContradiction fun h'=>h ⟨k,hk,by grind⟩
 have h1:=hP (fun k=>x k - y k) hd
 rw [md_form] at h1
 have h2:sm N (fun n=>md items S (fun k=>x k - y k) n * md items S (fun k=>x k - y k) n)=sm S (fun k=>(x k - y k) * grad items S N s y k) - sm S (fun k=>(x k - y k) * grad items S N s x k):=by
  rw [grad_dot,grad_dot,← sm_sub]
  refine sm_congr fun n _=>?_
  rw [md_sub];grind
 have h3:sm S (fun k=>(x k - y k) * grad items S N s y k)≤0:=by
  have:0≤sm S (fun k => -((x k - y k) * grad items S N s y k)):=sm_nn fun k hk=>by
   obtain ⟨a1,a2,a3⟩:=hx k hk
   obtain ⟨b1,b2,b3⟩:=hy k hk
   have:=Rat.mul_nonneg a1 (show 0 ≤ -grad items S N s y k by grind)
   grind
  have e:sm S (fun k => -((x k - y k) * grad items S N s y k))=(-1) * sm S (fun k=>(x k - y k) * grad items S N s y k):=by
   rw [← sm_mul];exact sm_congr fun k _=>by grind
  grind
 have h4:0≤sm S (fun k=>(x k - y k) * grad items S N s x k):=sm_nn fun k hk=>by
  obtain ⟨a1,a2,a3⟩:=hx k hk
  obtain ⟨b1,b2,b3⟩:=hy k hk
  have:=Rat.mul_nonneg b1 (show 0 ≤ -grad items S N s x k by grind)
  grind
 grind
end
end Go.Lin

/- Divisors,multiples,digits of quotients,in plain Lean. By an AI agent;nothing here is trusted. -/
namespace Go.Lin

def gcds (d:Nat) (l:List Nat):Nat:=l.foldl Nat.gcd d
theorem gcds_dvd (l:List Nat):∀ d,gcds d l ∣ d:=by
 induction l with
 | nil=>exact fun d=>Nat.dvd_refl _
 | cons p l ih=>exact fun d=>Nat.dvd_trans (ih (Nat.gcd d p)) (Nat.gcd_dvd_left _ _)
theorem gcds_mem {l:List Nat}:∀ {d p:Nat},p ∈ l→gcds d l ∣ p:=by
 induction l with
 | nil=>intro d p h;cases h
 | cons q l ih =>
  intro d p h
  rcases List.mem_cons.1 h with rfl | h
  ·exact Nat.dvd_trans (gcds_dvd l _) (Nat.gcd_dvd_right _ _)
  ·exact ih h
theorem guess {B yn1 yn0 u d q r:Nat} (hu:q * yn1+r=u):(r * B+d<q * yn0) ↔ (u * B+d<q * (yn1 * B+yn0)):=by
 subst hu
 rw [Nat.add_mul,Nat.mul_add,← Nat.mul_assoc]
 omega
theorem guess_top {B yn1 yn0 u d:Nat} (hB:0<B) (hy1:0<yn1) (hd:d<B):(u * B+d) / (yn1 * B+yn0)≤u / yn1:=by
 have h1:(u * B+d) / (yn1 * B+yn0)≤(u * B+d) / (yn1 * B):=Nat.div_le_div_left (by omega) (Nat.mul_pos hy1 hB)
 have h2:(u * B+d) / (yn1 * B)=u / yn1:=by
  rw [Nat.mul_comm yn1 B,← Nat.div_div_eq_div_mul]
  congr 1
  rw [Nat.mul_comm u B,Nat.mul_add_div hB,Nat.div_eq_of_lt hd,Nat.add_zero]
 omega
theorem digit_ok {B yn1 yn0 u d q r:Nat} (hy0:yn0<B) (hy1:0<yn1) (hu:q * yn1+r=u) (hlo:(u * B+d) / (yn1 * B+yn0)≤q) (h:q * yn0≤r * B+d):q=(u * B+d) / (yn1 * B+yn0):=by
 refine Nat.le_antisymm ?_ hlo
 have hB:0<B:=by omega
 have h1:¬ (r * B+d<q * yn0):=by omega
 rw [guess hu] at h1
 rw [Nat.le_div_iff_mul_le (by have:=Nat.mul_pos hy1 hB;omega)]
 omega
theorem digit_more {B yn1 yn0 u d q r:Nat} (hy0:yn0<B) (hy1:0<yn1) (hd:d<B) (hyu:u<yn1 * B+yn0) (hu:q * yn1+r=u) (h:B≤q∨r * B+d<q * yn0):(u * B+d) / (yn1 * B+yn0)<q:=by
 have hB:0<B:=by omega
 have hpos:0<yn1 * B+yn0:=by have:=Nat.mul_pos hy1 hB;omega
 rw [Nat.div_lt_iff_lt_mul hpos]
 rcases h with h | h
 ·have h1:(u+1) * B≤(yn1 * B+yn0) * B:=Nat.mul_le_mul_right _ hyu
  have h2:(yn1 * B+yn0) * B≤(yn1 * B+yn0) * q:=Nat.mul_le_mul_left _ h
  rw [Nat.add_mul] at h1
  rw [Nat.mul_comm q]
  omega
 ·rw [guess hu] at h;exact h
theorem digit_brk {B yn1 yn0 u d q r:Nat} (hy0:yn0<B) (hy1:0<yn1) (hyu:u<yn1 * B+yn0) (hu:q * yn1+r=u) (hr:B≤r):q * yn0≤r * B+d:=by
 have hq:q<B:=by
  refine Classical.byContradiction fun hn=>?_
  have:B * yn1≤q * yn1:=Nat.mul_le_mul_right _ (by omega)
  rw [Nat.mul_comm B] at this
  omega
 have h1:q * yn0≤B * B:=Nat.mul_le_mul (by omega) (by omega)
 have h2:B * B≤r * B:=Nat.mul_le_mul_right _ hr
 omega
theorem knuth {N y s U un1 un0 Y Q1 R1 Q0 R2 B:Nat} (hy:0<y) (hY:Y=y * 2 ^ s) (hN:N * 2 ^ s=(U * B+un1) * B+un0) (h1:U * B+un1=Q1 * Y+R1) (h2:R1 * B+un0=Q0 * Y+R2) (hr:R2<Y) :
  N / y=Q1 * B+Q0∧N % y=R2 / 2 ^ s:=by
 have hp:0<2 ^ s:=Nat.pow_pos (by decide)
 have e:N * 2 ^ s=(Q1 * B+Q0) * Y+R2:=by
  rw [hN,h1,Nat.add_mul,Nat.add_mul,Nat.mul_right_comm];omega
 have e1:N * 2 ^ s / Y=Q1 * B+Q0:=by
  rw [e,Nat.mul_comm _ Y,Nat.mul_add_div (by rw [hY];exact Nat.mul_pos hy hp),Nat.div_eq_of_lt hr,Nat.add_zero]
 have e2:N * 2 ^ s % Y=R2:=by
  rw [e,Nat.mul_comm _ Y,Nat.mul_add_mod,Nat.mod_eq_of_lt hr]
 rw [hY] at e1 e2
 rw [Nat.mul_div_mul_right _ _ hp] at e1
 rw [Nat.mul_mod_mul_right] at e2
 exact ⟨e1,by rw [← e2,Nat.mul_div_cancel _ hp]⟩
theorem shift_hi (hi lo s:Nat) (hs:s≤64):(hi * 18446744073709551616+lo) * 2 ^ s=(hi * 2 ^ s+lo / 2 ^ (64 - s)) * 18446744073709551616+lo * 2 ^ s % 18446744073709551616:=by
 have hp:0<2 ^ s:=Nat.pow_pos (by decide)
 have e:lo * 2 ^ s / 18446744073709551616=lo / 2 ^ (64 - s):=by
  have:(18446744073709551616:Nat)=2 ^ (64 - s) * 2 ^ s:=by rw [← Nat.pow_add,show 64 - s+s=64 by omega]
  rw [this,Nat.mul_div_mul_right _ _ hp]
 have:=Nat.div_add_mod (lo * 2 ^ s) 18446744073709551616
 rw [e] at this
 rw [Nat.add_mul,Nat.add_mul,Nat.mul_right_comm]
 omega
end Go.Lin

/- The contract of bits.Div64. By an AI agent;nothing here is trusted. -/
namespace Go.Proofs.YtpaklfjlbocfcaaGreatDoor
open Go.Av

theorem LeadingZeros64_s (x:Nat) (hx:x<18446744073709551616) (hb:Lib.bitLen x≤64):Sound Tryz.prog 208 [.int .u64 x] (.int .i64 ((64 - Lib.bitLen x:Nat):Int)):=by
 refine sound_W f_math_bits_LeadingZeros64 (Nat.le_of_ble_eq_true rfl) ?_
 have e:(64:Int) - (Lib.bitLen x:Int)=((64 - Lib.bitLen x:Nat):Int):=by omega
 simp only [c_math_bits_LeadingZeros64,vZ,Int.reduceEq,Int.reduceNe,Int.reduceLT,Int.reduceLE,Nat.reduceEqDiff,Nat.reduceAdd,reduceIte,reduceCtorEq,Nat.reduceLT,Nat.reduceLeDiff,Nat.reduceShiftRight,Nat.reduceMod]
 refine callS_of (Len64_s x hx) ?_
 simp only [e,vZ,Int.reduceEq,Int.reduceNe,Int.reduceLT,Int.reduceLE,Nat.reduceEqDiff,Nat.reduceAdd,reduceIte,reduceCtorEq,Nat.reduceLT,Nat.reduceLeDiff,Nat.reduceShiftRight,Nat.reduceMod]
 unfold I64;omega
theorem shl_u (a s:Nat) (hs:s≤64):IntKind.u64.wrap ((a:Int) * 2 ^ min s IntKind.u64.bits)=((a * 2 ^ s % 18446744073709551616:Nat):Int):=by
 have:min s IntKind.u64.bits=s:=Nat.min_eq_left hs
 rw [this,u64_mod]
 have:(a:Int) * 2 ^ s=((a * 2 ^ s:Nat):Int):=by simp
 rw [this];omega
theorem shr_u (a s:Nat) (hs:s≤64):(a:Int).fdiv (2 ^ min s IntKind.u64.bits)=((a / 2 ^ s:Nat):Int):=by
 have:min s IntKind.u64.bits=s:=Nat.min_eq_left hs
 rw [this]
 have:(2:Int) ^ s=((2 ^ s:Nat):Int):=by simp
 rw [this,Int.fdiv_eq_ediv_of_nonneg _ (Int.natCast_nonneg _)];rfl
theorem or_u (a b k:Nat) (hk:k≤64) (ha:2 ^ k ∣ a) (hb:b<2 ^ k) (h:a+b<18446744073709551616) :
  IntKind.u64.wrap ((((BitVec.ofInt IntKind.u64.bits (a:Int)) ||| (BitVec.ofInt IntKind.u64.bits (b:Int))).toNat:Nat):Int)=((a+b:Nat):Int):=by
 have e1:∀ x:Nat,x<18446744073709551616→(BitVec.ofInt IntKind.u64.bits (x:Int)).toNat=x:=fun x hx=>by
  rw [BitVec.toNat_ofInt]
  show ((x:Int) % ((2 ^ 64:Nat):Int)).toNat=x
  omega
 obtain ⟨c,rfl⟩:=ha
 have e2:2 ^ k * c ||| b=2 ^ k * c+b:=by
  rw [Nat.mul_comm,← Nat.shiftLeft_eq,Nat.shiftLeft_add_eq_or_of_lt hb]
 rw [BitVec.toNat_or,e1 _ (by omega),e1 _ (by omega),e2]
 exact u64_wrap (by omega)
theorem tdiv_u (a b:Nat) (h:a / b<18446744073709551616):IntKind.u64.wrap ((a:Int).tdiv b)=((a / b:Nat):Int):=by
 rw [show (a:Int).tdiv b=((a / b:Nat):Int) from rfl];generalize a / b=q at *;exact u64_wrap (by omega)
theorem tmod_u (a b:Nat):(a:Int).tmod b=((a % b:Nat):Int):=rfl
theorem mul_u (a b:Nat) (h:a * b<18446744073709551616):IntKind.u64.wrap ((a:Int) * b)=((a * b:Nat):Int):=by rw [← Int.natCast_mul];exact u64_wrap (by omega)
theorem add_u (a b:Nat) (h:a+b<18446744073709551616):IntKind.u64.wrap ((a:Int)+b)=((a+b:Nat):Int):=by rw [← Int.natCast_add];exact u64_wrap (by omega)
theorem sub_u (a b:Nat) (h:b≤a) (ha:a<18446744073709551616):IntKind.u64.wrap ((a:Int) - b)=((a - b:Nat):Int):=by
 have:(a:Int) - b=((a - b:Nat):Int):=by omega
 rw [this];exact u64_wrap (by omega)
theorem wrap3 (a b c r:Nat) (h:a+b=c+r) (hr:r<18446744073709551616):IntKind.u64.wrap (IntKind.u64.wrap (IntKind.u64.wrap (a:Int)+b) - IntKind.u64.wrap (c:Int))=(r:Int):=by
 simp only [u64_mod];omega

theorem div_tail {e:Env} {s:Store} {Y k un0 q1 u21 q0 Q R2 R:Nat} (h2:e 2=.int .u64 Y) (h8:e 8=.int .u64 k) (h14:e 14=.int .u64 un0) (h15:e 15=.int .u64 q1) (h17:e 17=.int .u64 u21) (h18:e 18=.int .u64 q0)
  (hk:k≤64) (hQ:q1 * 4294967296+q0=Q) (hQ64:Q<18446744073709551616) (hR:u21 * 4294967296+un0=q0 * Y+R2) (hR2:R2<18446744073709551616) (hRR:R2 / 2 ^ k=R) :
  WL Tryz.prog 135 cl_math_bits_Div64_19 (endQ [(6,none),(7,none)] (.tup [.int .u64 Q,.int .u64 R])) e s .mk:=by
 have w1:IntKind.u64.wrap ((q1:Int) * 4294967296)=((q1 * 4294967296:Nat):Int):=by rw [show (4294967296:Int)=((4294967296:Nat):Int) by rfl];exact mul_u _ _ (by omega)
 have w2:IntKind.u64.wrap (((q1 * 4294967296:Nat):Int)+(q0:Int))=(Q:Int):=by rw [add_u _ _ (by omega),hQ]
 have w3:IntKind.u64.wrap (IntKind.u64.wrap (IntKind.u64.wrap ((u21:Int) * 4294967296)+(un0:Int)) - IntKind.u64.wrap ((q0:Int) * (Y:Int)))=(R2:Int):=by
  have:=wrap3 (u21 * 4294967296) un0 (q0 * Y) R2 hR hR2
  rw [Int.natCast_mul,Int.natCast_mul] at this
  exact this
 have w4:=shr_u R2 k hk
 rw [hRR] at w4
 simp only [cl_math_bits_Div64_19,h2,h8,h14,h15,h17,h18,w1,w2,w3,w4,vZ,Int.reduceEq,Int.reduceNe,Int.reduceLT,Int.reduceLE,Nat.reduceEqDiff,Nat.reduceAdd,reduceIte,reduceCtorEq,Nat.reduceLT,Nat.reduceLeDiff,Nat.reduceShiftRight,Nat.reduceMod]
 exact Int.natCast_nonneg _
theorem dig_facts {yn1 yn0 u d q r:Nat} (hn0:yn0<4294967296) (hd:d<4294967296) (hr:r<4294967296) (hq:q<4294967296) :
  IntKind.u64.wrap ((q:Int) * yn0)=((q * yn0:Nat):Int)∧IntKind.u64.wrap (4294967296 * (r:Int))=((4294967296 * r:Nat):Int)∧IntKind.u64.wrap (((4294967296 * r:Nat):Int)+(d:Int))=((4294967296 * r+d:Nat):Int):=by
 have h1:q * yn0≤4294967295 * 4294967295:=Nat.mul_le_mul (by omega) (by omega)
 exact ⟨mul_u _ _ (by omega),by rw [show (4294967296:Int)=((4294967296:Nat):Int) by rfl];exact mul_u _ _ (by omega),add_u _ _ (by omega)⟩
theorem div_two {Y k yn1 yn0 un0 q1 u21:Nat} {v:AV} (hY:Y=yn1 * 4294967296+yn0) (hY64:Y<18446744073709551616) (hn0:yn0<4294967296) (hn1:2147483648≤yn1) (hu:u21<Y) (h0:un0<4294967296) (hk:k≤64)
  (htail:∀ (e:Env) (s:Store) (q0 R2:Nat),e 2=.int .u64 Y→e 8=.int .u64 k→e 14=.int .u64 un0→e 15=.int .u64 q1→e 17=.int .u64 u21→e 18=.int .u64 q0→u21 * 4294967296+un0=q0 * Y+R2→R2<Y→q0<4294967296 →
   WL Tryz.prog 135 cl_math_bits_Div64_19 (endQ [(6,none),(7,none)] v) e s .mk) (q r:Nat) (hqr:q * yn1+r=u21) (hr:r<4294967296) (hlo:(u21 * 4294967296+un0) / (yn1 * 4294967296+yn0)≤q) :
  WL Tryz.prog 135 cl_math_bits_Div64_18 (endQ [(6,none),(7,none)] v) (envOf [(2,.int .u64 Y),(8,.int .u64 k),(9,.int .u64 yn1),(10,.int .u64 yn0),(14,.int .u64 un0),(15,.int .u64 q1),(16,.int .u64 r),(17,.int .u64 u21),(18,.int .u64 q)]) (stOf []) .mk:=by
 have hfin:∀ q:Nat,q=(u21 * 4294967296+un0) / (yn1 * 4294967296+yn0)→∃ R2,u21 * 4294967296+un0=q * Y+R2∧R2<Y∧q<4294967296:=by
  intro q hq
  rw [← hY] at hq
  have e1:=Nat.div_add_mod (u21 * 4294967296+un0) Y
  have e2:=Nat.mod_lt (u21 * 4294967296+un0) (show 0<Y by omega)
  rw [← hq,Nat.mul_comm Y q] at e1
  refine ⟨_,e1.symm,e2,?_⟩
  rw [hq,Nat.div_lt_iff_lt_mul (by omega)]
  have:(u21+1) * 4294967296≤Y * 4294967296:=Nat.mul_le_mul_right _ hu
  omega
 have hq33:q * yn1≤u21:=by omega
 simp only [cl_math_bits_Div64_18,vZ,Int.reduceEq,Int.reduceNe,Int.reduceLT,Int.reduceLE,Nat.reduceEqDiff,Nat.reduceAdd,reduceIte,reduceCtorEq,Nat.reduceLT,Nat.reduceLeDiff,Nat.reduceShiftRight,Nat.reduceMod]
 refine WL_loop (t:=.mk) (α:=PSigma fun p:Nat × Nat=>p.1 * yn1+p.2=u21∧p.2<4294967296∧(u21 * 4294967296+un0) / (yn1 * 4294967296+yn0)≤p.1) (fun ⟨p,_⟩=>(envOf [(2,.int .u64 Y),(8,.int .u64 k),(9,.int .u64 yn1),(10,.int .u64 yn0),(14,.int .u64 un0),(15,.int .u64 q1),(16,.int .u64 p.2),(17,.int .u64 u21),(18,.int .u64 p.1)],stOf [])) (fun x=>x.1.1) ⟨(q,r),hqr,hr,hlo⟩ ?_ (fun ⟨⟨q,r⟩,hqr,hr,hlo⟩=>?_)
 ·refine weakX [] (of_decide_eq_true rfl) (of_decide_eq_true rfl) ?_
  (simp only [vcW,vZ,Int.reduceEq,Int.reduceNe,Int.reduceLT,Int.reduceLE,Nat.reduceEqDiff,Nat.reduceAdd,reduceIte,reduceCtorEq,Nat.reduceLT,Nat.reduceLeDiff,Nat.reduceShiftRight,Nat.reduceMod])
  (repeat' first | exact trivial | (with_reducible first | exact RnB.fxB (ints_fxB _) | rfl | refine And.intro ?_ ?_) | (with_reducible (first | refine RnB.bb ?_ | refine RnB.nb ?_);simp only [vcW,vZ,Int.reduceEq,Int.reduceNe,Int.reduceLT,Int.reduceLE,Nat.reduceEqDiff,Nat.reduceAdd,reduceIte,reduceCtorEq,Nat.reduceLT,Nat.reduceLeDiff,Nat.reduceShiftRight,Nat.reduceMod]) | (with_reducible first | refine RnB.ii ?_ | refine RnB.app ?_) | (with_reducible refine RnB.fxB ?_;simp only [vcW,vZ,Int.reduceEq,Int.reduceNe,Int.reduceLT,Int.reduceLE,Nat.reduceEqDiff,Nat.reduceAdd,reduceIte,reduceCtorEq,Nat.reduceLT,Nat.reduceLeDiff,Nat.reduceShiftRight,Nat.reduceMod]) | omega)
 ·dsimp only at hqr hr hlo ⊢
  have hqu:q≤u21:=Nat.le_trans (Nat.le_mul_of_pos_right q (by omega)) (show q * yn1≤u21 by omega)
  have go:(4294967296≤q∨r * 4294967296+un0<q * yn0)→q ≠ 0∧(q - 1) * yn1+(r+yn1)=u21∧(u21 * 4294967296+un0) / (yn1 * 4294967296+yn0)≤q - 1:=by
   intro h
   have h1:=Lin.digit_more hn0 (by omega) h0 (by omega) hqr h
   have hq0:q ≠ 0:=fun e=>by rw [e] at h1;exact Nat.not_lt_zero _ h1
   refine ⟨hq0,?_,Nat.le_sub_one_of_lt h1⟩
   have:(q - 1+1) * yn1=(q - 1) * yn1+yn1:=Nat.succ_mul _ _
   rw [show q - 1+1=q from Nat.succ_pred_eq_of_ne_zero hq0] at this
   omega
  have w5:q ≠ 0→IntKind.u64.wrap ((q:Int) - 1)=((q - 1:Nat):Int):=fun h=>by rw [show (1:Int)=((1:Nat):Int) by rfl];exact sub_u _ _ (by omega) (by omega)
  have w6:IntKind.u64.wrap ((r:Int)+(yn1:Int))=((r+yn1:Nat):Int):=add_u _ _ (by omega)
  have next:(4294967296≤q∨r * 4294967296+un0<q * yn0)→¬ 4294967296≤r+yn1→(q - 1) * yn1+(r+yn1)=u21∧r+yn1<4294967296∧(u21 * 4294967296+un0) / (yn1 * 4294967296+yn0)≤q - 1:=fun h h'=>⟨(go h).2.1,by omega,(go h).2.2⟩
  have brk:(4294967296≤q∨r * 4294967296+un0<q * yn0)→4294967296≤r+yn1→q - 1=(u21 * 4294967296+un0) / (yn1 * 4294967296+yn0):=fun h h'=>Lin.digit_ok hn0 (by omega) (go h).2.1 (go h).2.2 (Lin.digit_brk hn0 (by omega) (by omega) (go h).2.1 h')
  by_cases g1:4294967296≤q
  ·have g1':(4294967296:Int)≤q:=by omega
   have hq0:=(go (.inl g1)).1
   by_cases g2:4294967296≤r+yn1
   ·have g2':(4294967296:Int)≤((r+yn1:Nat):Int):=by omega
    obtain ⟨R2,f1,f2,f3⟩:=hfin _ (brk (.inl g1) g2)
    simp only [g1',w5 hq0,w6,g2',vZ,Int.reduceEq,Int.reduceNe,Int.reduceLT,Int.reduceLE,Nat.reduceEqDiff,Nat.reduceAdd,reduceIte,reduceCtorEq,Nat.reduceLT,Nat.reduceLeDiff,Nat.reduceShiftRight,Nat.reduceMod]
    exact WL_cut (htail _ _ (q - 1) R2 rfl rfl rfl rfl rfl rfl f1 f2 f3)
   ·have g2':¬ (4294967296:Int)≤((r+yn1:Nat):Int):=by omega
    simp only [g1',w5 hq0,w6,g2',vZ,Int.reduceEq,Int.reduceNe,Int.reduceLT,Int.reduceLE,Nat.reduceEqDiff,Nat.reduceAdd,reduceIte,reduceCtorEq,Nat.reduceLT,Nat.reduceLeDiff,Nat.reduceShiftRight,Nat.reduceMod]
    refine ⟨⟨(q - 1,r+yn1),next (.inl g1) g2⟩,by simp only;omega,?_⟩
    refine weakX [] (of_decide_eq_true rfl) (of_decide_eq_true rfl) ?_
    (simp only [vcW,vZ,Int.reduceEq,Int.reduceNe,Int.reduceLT,Int.reduceLE,Nat.reduceEqDiff,Nat.reduceAdd,reduceIte,reduceCtorEq,Nat.reduceLT,Nat.reduceLeDiff,Nat.reduceShiftRight,Nat.reduceMod])
    (repeat' first | exact trivial | (with_reducible first | exact RnB.fxB (ints_fxB _) | rfl | refine And.intro ?_ ?_) | (with_reducible (first | refine RnB.bb ?_ | refine RnB.nb ?_);simp only [vcW,vZ,Int.reduceEq,Int.reduceNe,Int.reduceLT,Int.reduceLE,Nat.reduceEqDiff,Nat.reduceAdd,reduceIte,reduceCtorEq,Nat.reduceLT,Nat.reduceLeDiff,Nat.reduceShiftRight,Nat.reduceMod]) | (with_reducible first | refine RnB.ii ?_ | refine RnB.app ?_) | (with_reducible refine RnB.fxB ?_;simp only [vcW,vZ,Int.reduceEq,Int.reduceNe,Int.reduceLT,Int.reduceLE,Nat.reduceEqDiff,Nat.reduceAdd,reduceIte,reduceCtorEq,Nat.reduceLT,Nat.reduceLeDiff,Nat.reduceShiftRight,Nat.reduceMod]) | omega)
  ·have g1':¬ (4294967296:Int)≤q:=by omega
   obtain ⟨v1,v2,v3⟩:=dig_facts (yn1:=yn1) (u:=u21) hn0 h0 hr (show q<4294967296 by omega)
   by_cases g3:r * 4294967296+un0<q * yn0
   ·have g3':((4294967296 * r+un0:Nat):Int)<((q * yn0:Nat):Int):=by omega
    have hq0:=(go (.inr g3)).1
    by_cases g2:4294967296≤r+yn1
    ·have g2':(4294967296:Int)≤((r+yn1:Nat):Int):=by omega
     obtain ⟨R2,f1,f2,f3⟩:=hfin _ (brk (.inr g3) g2)
     simp only [g1',v1,v2,v3,g3',w5 hq0,w6,g2',vZ,Int.reduceEq,Int.reduceNe,Int.reduceLT,Int.reduceLE,Nat.reduceEqDiff,Nat.reduceAdd,reduceIte,reduceCtorEq,Nat.reduceLT,Nat.reduceLeDiff,Nat.reduceShiftRight,Nat.reduceMod]
     exact WL_cut (htail _ _ (q - 1) R2 rfl rfl rfl rfl rfl rfl f1 f2 f3)
    ·have g2':¬ (4294967296:Int)≤((r+yn1:Nat):Int):=by omega
     simp only [g1',v1,v2,v3,g3',w5 hq0,w6,g2',vZ,Int.reduceEq,Int.reduceNe,Int.reduceLT,Int.reduceLE,Nat.reduceEqDiff,Nat.reduceAdd,reduceIte,reduceCtorEq,Nat.reduceLT,Nat.reduceLeDiff,Nat.reduceShiftRight,Nat.reduceMod]
     refine ⟨⟨(q - 1,r+yn1),next (.inr g3) g2⟩,by simp only;omega,?_⟩
     refine weakX [] (of_decide_eq_true rfl) (of_decide_eq_true rfl) ?_
     (simp only [vcW,vZ,Int.reduceEq,Int.reduceNe,Int.reduceLT,Int.reduceLE,Nat.reduceEqDiff,Nat.reduceAdd,reduceIte,reduceCtorEq,Nat.reduceLT,Nat.reduceLeDiff,Nat.reduceShiftRight,Nat.reduceMod])
     (repeat' first | exact trivial | (with_reducible first | exact RnB.fxB (ints_fxB _) | rfl | refine And.intro ?_ ?_) | (with_reducible (first | refine RnB.bb ?_ | refine RnB.nb ?_);simp only [vcW,vZ,Int.reduceEq,Int.reduceNe,Int.reduceLT,Int.reduceLE,Nat.reduceEqDiff,Nat.reduceAdd,reduceIte,reduceCtorEq,Nat.reduceLT,Nat.reduceLeDiff,Nat.reduceShiftRight,Nat.reduceMod]) | (with_reducible first | refine RnB.ii ?_ | refine RnB.app ?_) | (with_reducible refine RnB.fxB ?_;simp only [vcW,vZ,Int.reduceEq,Int.reduceNe,Int.reduceLT,Int.reduceLE,Nat.reduceEqDiff,Nat.reduceAdd,reduceIte,reduceCtorEq,Nat.reduceLT,Nat.reduceLeDiff,Nat.reduceShiftRight,Nat.reduceMod]) | omega)
   ·have g3':¬ ((4294967296 * r+un0:Nat):Int)<((q * yn0:Nat):Int):=by omega
    obtain ⟨R2,f1,f2,f3⟩:=hfin q (Lin.digit_ok hn0 (by omega) hqr hlo (by omega))
    simp only [g1',v1,v2,v3,g3',vZ,Int.reduceEq,Int.reduceNe,Int.reduceLT,Int.reduceLE,Nat.reduceEqDiff,Nat.reduceAdd,reduceIte,reduceCtorEq,Nat.reduceLT,Nat.reduceLeDiff,Nat.reduceShiftRight,Nat.reduceMod]
    exact WL_cut (htail _ _ q R2 rfl rfl rfl rfl rfl rfl f1 f2 f3)
end Go.Proofs.YtpaklfjlbocfcaaGreatDoor

/- Signs,sizes,halves of numbers of 128 bits;the common divisor. By an AI agent;nothing here is trusted. -/
namespace Go.Proofs.YtpaklfjlbocfcaaGreatDoor
open Go.Av

def vl (p:Bool × Nat):Int:=wdV p.1 p.2
def plP (p q:Bool × Nat):Bool × Nat:=if p.1=q.1 then (p.1,p.2+q.2) else if p.2<q.2 then (q.1,q.2 - p.2) else (p.1,p.2 - q.2)
def ngP (p:Bool × Nat):Bool × Nat:=(!p.1,p.2)
def tmP (p:Bool × Nat) (k:Int):Bool × Nat:=(p.1 != decide (k<0),p.2 * k.natAbs)
theorem vl_abs (p:Bool × Nat):(vl p).natAbs=p.2:=by
 obtain ⟨b,n⟩:=p
 unfold vl wdV
 cases b <;> simp
theorem vl_ng (p:Bool × Nat):vl (ngP p) = - vl p:=by
 obtain ⟨b,n⟩:=p
 unfold vl ngP wdV
 cases b <;> simp
theorem vl_pl (p q:Bool × Nat):vl (plP p q)=vl p+vl q:=by
 obtain ⟨b,m⟩:=p
 obtain ⟨c,n⟩:=q
 unfold vl plP wdV
 cases b <;> cases c <;> simp
 all_goals (try split)
 all_goals (try simp)
 all_goals (try omega)
theorem vl_tm (p:Bool × Nat) (k:Int):vl (tmP p k)=vl p * k:=by
 obtain ⟨b,n⟩:=p
 unfold vl tmP wdV
 by_cases h:k<0
 ·have hk:k = -(k.natAbs:Int):=by omega
  cases b <;> simp [h] <;> (conv=>rhs;rw [hk]) <;> grind
 ·have hk:k=(k.natAbs:Int):=by omega
  cases b <;> simp [h] <;> (conv=>rhs;rw [hk]) <;> grind
theorem plP_s (p q:Bool × Nat) (h:W128 (p.2+q.2)):Sound Tryz.prog 133 [wdA p.1 p.2,wdA q.1 q.2] (wdA (plP p q).1 (plP p q).2):=by
 obtain ⟨b,m⟩:=p
 obtain ⟨c,n⟩:=q
 unfold plP
 by_cases e:b=c
 ·subst e
  rw [if_pos rfl]
  exact plus_same_s b m n h
 ·have hc:c=!b:=by cases b <;> cases c <;> simp_all
  subst hc
  rw [if_neg e]
  unfold W128 at h
  simp only at h
  have:=plus_other_s b m n (by unfold W128;omega) (by unfold W128;omega)
  simp only
  split
  ·rename_i g;rw [if_pos g] at this;exact this
  ·rename_i g;rw [if_neg g] at this;exact this
theorem ngP_s (p:Bool × Nat):Sound Tryz.prog 179 [wdA p.1 p.2] (wdA (ngP p).1 (ngP p).2):=negated_s p.1 p.2
theorem tmP_s (p:Bool × Nat) (k:Int) (hk:S63 k) (hb:W128 (p.2 * k.natAbs)) (hm:W128 p.2):Sound Tryz.prog 135 [wdA p.1 p.2,.int .i64 k] (wdA (tmP p k).1 (tmP p k).2):=times_s p.1 p.2 k hk hb hm
theorem sign_s (p:Bool × Nat) (h:W128 p.2):Sound Tryz.prog 180 [wdA p.1 p.2] (.int .i64 (vl p).sign):=by
 refine sound_W f_pulse_wide_sign (Nat.le_of_ble_eq_true rfl) ?_
 obtain ⟨b,n⟩:=p
 have hz:=isZero_s b n h
 simp only
 unfold wdA at hz ⊢
 simp only [c_pulse_wide_sign,vZ,Int.reduceEq,Int.reduceNe,Int.reduceLT,Int.reduceLE,Nat.reduceEqDiff,Nat.reduceAdd,reduceIte,reduceCtorEq,Nat.reduceLT,Nat.reduceLeDiff,Nat.reduceShiftRight,Nat.reduceMod]
 refine callS_of hz ?_
 by_cases h0:n=0
 ·have hs:(vl (b,n)).sign=0:=by rw [h0];unfold vl wdV;cases b <;> rfl
  rw [hs,decide_eq_true h0]
  simp only [vZ,Int.reduceEq,Int.reduceNe,Int.reduceLT,Int.reduceLE,Nat.reduceEqDiff,Nat.reduceAdd,reduceIte,reduceCtorEq,Nat.reduceLT,Nat.reduceLeDiff,Nat.reduceShiftRight,Nat.reduceMod]
 ·rw [decide_eq_false h0]
  cases b with
  | true =>
   have hs:(vl (true,n)).sign = -1:=Int.sign_eq_neg_one_of_neg (by unfold vl wdV;simp;omega)
   rw [hs]
   simp only [vZ,Int.reduceEq,Int.reduceNe,Int.reduceLT,Int.reduceLE,Nat.reduceEqDiff,Nat.reduceAdd,reduceIte,reduceCtorEq,Nat.reduceLT,Nat.reduceLeDiff,Nat.reduceShiftRight,Nat.reduceMod]
  | false =>
   have hs:(vl (false,n)).sign=1:=Int.sign_eq_one_of_pos (by unfold vl wdV;simp;omega)
   rw [hs]
   simp only [vZ,Int.reduceEq,Int.reduceNe,Int.reduceLT,Int.reduceLE,Nat.reduceEqDiff,Nat.reduceAdd,reduceIte,reduceCtorEq,Nat.reduceLT,Nat.reduceLeDiff,Nat.reduceShiftRight,Nat.reduceMod]
theorem size_s (b:Bool) (n:Nat):Sound Tryz.prog 204 [wdA b n] (wdA false n):=by
 refine sound_W f_pulse_wide_size (Nat.le_of_ble_eq_true rfl) ?_
 unfold wdA
 simp only [c_pulse_wide_size,vZ,Int.reduceEq,Int.reduceNe,Int.reduceLT,Int.reduceLE,Nat.reduceEqDiff,Nat.reduceAdd,reduceIte,reduceCtorEq,Nat.reduceLT,Nat.reduceLeDiff,Nat.reduceShiftRight,Nat.reduceMod]
theorem half_s (b:Bool) (n:Nat) (h:W128 n):Sound Tryz.prog 205 [wdA b n] (wdA b (n / 2)):=by
 refine sound_W f_pulse_wide_half (Nat.le_of_ble_eq_true rfl) ?_
 unfold W128 at h
 have q1:n / 2 / 18446744073709551616=n / 18446744073709551616 / 2:=by omega
 have q2:n / 2 % 18446744073709551616=(n / 18446744073709551616 * 9223372036854775808) % 18446744073709551616+n % 18446744073709551616 / 2:=by omega
 unfold wdA
 rw [q1,q2]
 have hl:n % 18446744073709551616<18446744073709551616:=by omega
 generalize n / 18446744073709551616=hi at *
 generalize n % 18446744073709551616=lo at *
 have s1:=shr_u hi (Int.toNat 1) (by decide)
 have s2:=shr_u lo (Int.toNat 1) (by decide)
 have s3:=shl_u hi (Int.toNat 63) (by decide)
 have e1:2 ^ (Int.toNat 1)=2:=rfl
 have e63:2 ^ (Int.toNat 63)=9223372036854775808:=by decide
 rw [e1] at s1 s2
 rw [e63] at s3
 have o1:=or_u (hi * 9223372036854775808 % 18446744073709551616) (lo / 2) 63 (by omega) (by rw [show (2:Nat) ^ 63=9223372036854775808 by decide];omega) (by rw [show (2:Nat) ^ 63=9223372036854775808 by decide];omega) (by omega)
 have o2:IntKind.u64.wrap ((((BitVec.ofInt IntKind.u64.bits ((lo / 2:Nat):Int)) ||| (BitVec.ofInt IntKind.u64.bits ((hi * 9223372036854775808 % 18446744073709551616:Nat):Int))).toNat:Nat):Int)=((hi * 9223372036854775808 % 18446744073709551616+lo / 2:Nat):Int):=by
  rw [BitVec.or_comm];exact o1
 generalize hi * 9223372036854775808 % 18446744073709551616+lo / 2=r at *
 simp only [c_pulse_wide_half,s1,s2,s3,o2,vZ,Int.reduceEq,Int.reduceNe,Int.reduceLT,Int.reduceLE,Nat.reduceEqDiff,Nat.reduceAdd,reduceIte,reduceCtorEq,Nat.reduceLT,Nat.reduceLeDiff,Nat.reduceShiftRight,Nat.reduceMod]
theorem twice_s (b:Bool) (n:Nat) (h:W128 (n+n)):Sound Tryz.prog 206 [wdA b n] (wdA b (n+n)):=by
 refine sound_W f_pulse_wide_twice (Nat.le_of_ble_eq_true rfl) ?_
 have hp:=plus_same_s b n n h
 unfold wdA at hp ⊢
 simp only [c_pulse_wide_twice,vZ,Int.reduceEq,Int.reduceNe,Int.reduceLT,Int.reduceLE,Nat.reduceEqDiff,Nat.reduceAdd,reduceIte,reduceCtorEq,Nat.reduceLT,Nat.reduceLeDiff,Nat.reduceShiftRight,Nat.reduceMod]
 refine callS_of hp ?_
 simp only [vZ,Int.reduceEq,Int.reduceNe,Int.reduceLT,Int.reduceLE,Nat.reduceEqDiff,Nat.reduceAdd,reduceIte,reduceCtorEq,Nat.reduceLT,Nat.reduceLeDiff,Nat.reduceShiftRight,Nat.reduceMod]

theorem or_g (x y:Nat) (hx:x<18446744073709551616) (hy:y<18446744073709551616):IntKind.u64.wrap ((((BitVec.ofInt IntKind.u64.bits (x:Int)) ||| (BitVec.ofInt IntKind.u64.bits (y:Int))).toNat:Nat):Int)=((x ||| y:Nat):Int):=by
 have e1:∀ x:Nat,x<18446744073709551616→(BitVec.ofInt IntKind.u64.bits (x:Int)).toNat=x:=fun x hx=>by
  rw [BitVec.toNat_ofInt]
  show ((x:Int) % ((2 ^ 64:Nat):Int)).toNat=x
  omega
 rw [BitVec.toNat_or,e1 _ hx,e1 _ hy]
 have:x ||| y<2 ^ 64:=Nat.or_lt_two_pow hx hy
 exact u64_wrap (by omega)
theorem and_1 (x:Nat) (h:x<18446744073709551616):IntKind.u64.wrap ((((BitVec.ofInt IntKind.u64.bits (x:Int)) &&& (BitVec.ofInt IntKind.u64.bits 1)).toNat:Nat):Int)=((x % 2:Nat):Int):=by
 have h1:((BitVec.ofInt IntKind.u64.bits (x:Int)) &&& (BitVec.ofInt IntKind.u64.bits 1)).toNat=x % 2:=by
  rw [BitVec.toNat_and]
  have e1:(BitVec.ofInt IntKind.u64.bits (x:Int)).toNat=x:=by
   rw [BitVec.toNat_ofInt]
   show ((x:Int) % ((2 ^ 64:Nat):Int)).toNat=x
   omega
  have e2:(BitVec.ofInt IntKind.u64.bits 1).toNat=2 ^ 1 - 1:=by decide
  rw [e1,e2,Nat.and_two_pow_sub_one_eq_mod]
 rw [h1,u64_mod]
 omega
theorem or_par (x y:Nat):(x ||| y) % 2=0 ↔ x % 2=0∧y % 2=0:=by
 have:=Nat.or_mod_two_pow (a:=x) (b:=y) (n:=1)
 rw [Nat.pow_one] at this
 rw [this]
 rcases Nat.mod_two_eq_zero_or_one x with h | h <;> rcases Nat.mod_two_eq_zero_or_one y with g | g <;> rw [h,g] <;> decide
end Go.Proofs.YtpaklfjlbocfcaaGreatDoor

