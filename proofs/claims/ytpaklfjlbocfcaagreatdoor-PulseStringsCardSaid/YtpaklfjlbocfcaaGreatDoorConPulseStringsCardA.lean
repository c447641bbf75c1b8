/- The tables of the library, as the rows say that they lie: what the layer wants of them. By an AI agent; nothing here is trusted. -/
import Derived.Test.YtpaklfjlbocfcaaGreatDoorRows
import Derived.Test.YtpaklfjlbocfcaaGreatDoorLayC
import Derived.Test.YtpaklfjlbocfcaaGreatDoorProg
import Derived.Test.YtpaklfjlbocfcaaGreatDoorLayD
import Derived.Test.YtpaklfjlbocfcaaGreatDoorLayA
import Derived.Test.YtpaklfjlbocfcaaGreatDoorKode
import Derived.ProofKit
import Derived.LaidMore
import Derived.OpenShut
import Derived.Stop.Joined
import Derived.LaidLaws
import Derived.Lay
import Derived.Shelf.LaysM
import Derived.Shelf.LaysC
import Derived.Shelf.Strconv.Itoa3
import Derived.Lib.LaidTab
import Derived.Shelf.Strconv.AtoiAll
import Derived.Shelf.Strings.OnBuilder
import Derived.Lib.ItoaNum
import Derived.Lib.AtoiAll
import Derived.Lib.Join
import Derived.Lib.Bytealg
import Derived.Shelf.Strings.Search3
import Derived.RangeFuncKeeps
import Derived.WalkKit
import Derived.OwnWalkIn
import Derived.TacticsInMore
import Derived.LoopIn
import Derived.WalkSpells
import Derived.OneCell
import Derived.Shelf.Strings.Prefix
set_option linter.defProp false
set_option linter.unusedSimpArgs false
set_option linter.unusedVariables false
namespace Go.Proofs.YtpaklfjlbocfcaaGreatDoor
open Go.ChangeShapes Go.WideShapes Go.ChangeAt Go.RowKit
open Go.Av

def laidP:List (String × DataW Unit):=[("math/bits.deBruijn32tab",Rows.laid_math_bits_deBruijn32tab),("math/bits.deBruijn64tab",Rows.laid_math_bits_deBruijn64tab),("internal/strconv.uint64pow10",Rows.laid_internal_strconv_uint64pow10),("unicode/utf8.acceptRanges",Rows.laid_unicode_utf8_acceptRanges),("strconv.ErrRange",Rows.laid_strconv_ErrRange),("strconv.ErrSyntax",Rows.laid_strconv_ErrSyntax),("unicode/utf8.first",Rows.laid_unicode_utf8_first)]

theorem ownKn:ownKnob Tryz.prog.godebug=none:=by kernel_rfl
set_option maxRecDepth 100000 in
theorem door_met (os:Os) (args:Array Value):laidMetH Tryz.prog laidP ((World.laidAll Tryz.prog os laidP).forCall (fun _ _=>0) ⟨#[],args,[]⟩).memory:=by
 rw [MakeChecks.laidMetH_plain _ _ _ (by kernel_rfl)]
 exact laidMet_laidAll _ (by kernel_rfl) (by kernel_rfl)

theorem tab_cells {W:World} {g:Nat} {name:String} {t e:TypeId} {n f:Nat} {k:IntKind} {cs:Array Value} {ns:List Int} {p:List MemPlace} {H:Type} {enc:TypeId × Value→H} {sp:Nat→Bool} {held:Bool} (hg:Tryz.prog.globalNamed name=some g)
  (hv:W.var? Tryz.prog name=some cs) (ht:Tryz.prog.underlying t=some (.array n e)) (he:Tryz.prog.underlying e=some (.int k)) (hc:Tryz.prog.cellsOf e=1) (hct:Tryz.prog.cellsOf t=n) (hn:ns.length=n) (hpos:0<n)
  (hd:DataW.trod enc Tryz.prog W 0 sp held f t cs.toList=some (.agg (ns.map fun m=>.lit (.int k m)),p)) :
  g<W.heap.size∧∃ cur ty fr,W.heap[g]?=some (.cells cur ty fr)∧cur.size=ns.length∧∀ (j:Nat) (m:Int),ns[j]?=some m→cur[j]?=some (.int k m):=by
 obtain ⟨xs,m1,rfl,hx1,hcl,hlen,hel⟩:=DataW.trod_array ht hd
 simp only [Prod.mk.injEq,DataW.agg.injEq] at hx1
 have key:∀ (j:Nat) (m:Int),ns[j]?=some m→cs[j]?=some (.int k m):=by
  intro j m hj
  have hjn:j<n:=by rw [← hn];exact (List.getElem?_eq_some_iff.1 hj).1
  have h1:=hel j hjn
  rw [hc,Nat.mul_one] at h1
  obtain ⟨x,hx⟩:∃ x,xs[j]?=some x:=⟨xs[j]'(by omega),List.getElem?_eq_getElem (by omega)⟩
  rw [hx] at h1
  obtain ⟨q,e1,e2,_⟩:=DataW.trod_int he h1
  have h2:(xs.map (·.1))[j]?=some (.lit (.int k q)):=by rw [List.getElem?_map,hx,e2];rfl
  rw [← hx1.1,List.getElem?_map,hj] at h2
  simp only [Option.map_some,Option.some.injEq,DataW.lit.injEq,Lit.int.injEq,true_and] at h2
  subst h2
  have h3:((cs.toList.drop j).take 1)[0]?=some (.int k m):=by rw [e1];rfl
  rw [List.getElem?_take,if_pos (by omega),List.getElem?_drop] at h3
  simpa using h3
 have h0:∃ m,ns[0]?=some m:=⟨ns[0]'(by omega),List.getElem?_eq_getElem (by omega)⟩
 obtain ⟨m0,hm0⟩:=h0
 have hcell:=World.var?_cell hg hv
 have hb:∃ cur ty fr,W.heap[g]?=some (.cells cur ty fr):=by
  have:=(hcell 0).trans (key 0 m0 hm0)
  unfold World.cell? at this
  split at this
  ·rename_i cur ty fr hb;exact ⟨cur,ty,fr,hb⟩
  ·cases this
 obtain ⟨cur,ty,fr,hb⟩:=hb
 refine ⟨(Array.getElem?_eq_some_iff.1 hb).1,cur,ty,fr,hb,?_,fun j m hj=>?_⟩
 ·have h1:cs.size=n:=by rw [← Array.length_toList,hcl,hct]
  have hce:∀ i,cur[i]?=cs[i]?:=fun i=>by
   have:=hcell i
   unfold World.cell? at this
   rw [hb] at this
   simpa using this
  have h2:cs.size=cur.size:=by
   have e1:=hce cs.size
   have e2:=hce cur.size
   rw [Array.getElem?_eq_none (Nat.le_refl _)] at e2
   rw [Array.getElem?_eq_none (xs:=cs) (Nat.le_refl _),Array.getElem?_eq_none_iff] at e1
   have:=Array.getElem?_eq_none_iff.1 e2.symm
   omega
  omega
 have:=(hcell j).trans (key j m hj)
 unfold World.cell? at this
 rw [hb] at this
 simpa using this

theorem err_cells {W:World} {g:Nat} {name nm:String} {t:TypeId} {f:Nat} {ms:Array (String × TypeId)} {cs:Array Value} {p:List MemPlace} {H:Type} {enc:TypeId × Value→H} {sp:Nat→Bool} {d:DataW H} (hg:Tryz.prog.globalNamed name=some g)
  (hv:W.var? Tryz.prog name=some cs) (ht:Tryz.prog.underlying t=some (.interface ms)) (hd:DataW.trod enc Tryz.prog W 0 sp false f t cs.toList=some (.iface nm d,p)) :
  g<W.heap.size∧∃ cur ty fr te pe,W.heap[g]?=some (.cells cur ty fr)∧cur[0]?=some (.iface te pe):=by
 obtain ⟨f1,u,v,hcs,_,_⟩:=iface_of_trod ht hd
 have hc:cs[0]?=some (.iface u v):=by
  rw [← Array.getElem?_toList,hcs];rfl
 have:=(World.var?_cell hg hv 0).trans hc
 unfold World.cell? at this
 split at this
 ·rename_i cur ty fr hb
  exact ⟨(Array.getElem?_eq_some_iff.1 hb).1,cur,ty,fr,u,v,hb,by simpa using this⟩
 ·cases this

theorem gES:Tryz.prog.globalNamed "strconv.ErrSyntax"=some 5:=by kernel_rfl
theorem gER:Tryz.prog.globalNamed "strconv.ErrRange"=some 6:=by kernel_rfl
theorem g32:Tryz.prog.globalNamed "math/bits.deBruijn32tab"=some 0:=by kernel_rfl
theorem g64:Tryz.prog.globalNamed "math/bits.deBruijn64tab"=some 1:=by kernel_rfl
theorem g10:Tryz.prog.globalNamed "internal/strconv.uint64pow10"=some 9:=by kernel_rfl

theorem of_laid {W:World} (h:laidMetH Tryz.prog laidP W):GOk (fun b=>b<W.heap.size) W:=by
 rw [MakeChecks.laidMetH_plain _ _ _ (by kernel_rfl)] at h
 obtain ⟨ps,⟨n0,t0,cs0,f0,p0,q0,hn0,ht0,hv0,hd0,⟨n1,t1,cs1,f1,p1,q1,hn1,ht1,hv1,hd1,⟨n2,t2,cs2,f2,p2,q2,hn2,ht2,hv2,hd2,⟨n3,t3,cs3,f3,p3,q3,hn3,ht3,hv3,hd3,⟨n4,t4,cs4,f4,p4,q4,hn4,ht4,hv4,hd4,⟨n5,t5,cs5,f5,p5,q5,hn5,ht5,hv5,hd5,_⟩,_⟩,_⟩,_⟩,_⟩,_⟩,_⟩:=h
 obtain rfl:=Option.some.inj (g32.symm.trans hn0)
 obtain rfl:=Option.some.inj (g64.symm.trans hn1)
 obtain rfl:=Option.some.inj (g10.symm.trans hn2)
 obtain rfl:=Option.some.inj ((show (Tryz.prog.globals[0]?).map (·.type)=some 248 by kernel_rfl).symm.trans ht0)
 obtain rfl:=Option.some.inj ((show (Tryz.prog.globals[1]?).map (·.type)=some 249 by kernel_rfl).symm.trans ht1)
 obtain rfl:=Option.some.inj ((show (Tryz.prog.globals[9]?).map (·.type)=some 282 by kernel_rfl).symm.trans ht2)
 obtain rfl:=Option.some.inj (gER.symm.trans hn4)
 obtain rfl:=Option.some.inj (gES.symm.trans hn5)
 obtain rfl:=Option.some.inj ((show (Tryz.prog.globals[6]?).map (·.type)=some 212 by kernel_rfl).symm.trans ht4)
 obtain rfl:=Option.some.inj ((show (Tryz.prog.globals[5]?).map (·.type)=some 212 by kernel_rfl).symm.trans ht5)
 have e4:=err_cells hn4 hv4 Tryz.underlying212 hd4
 have e5:=err_cells hn5 hv5 Tryz.underlying212 hd5
 have c0:=tab_cells (ns:=[0,1,28,2,29,14,24,3,30,22,20,15,25,17,4,8,31,27,13,23,21,19,16,7,26,12,18,6,11,5,10,9]) hn0 hv0 Tryz.underlying248 Tryz.underlying5 (by kernel_rfl) (by kernel_rfl) rfl (by decide) hd0
 have c1:=tab_cells (ns:=[0,1,56,2,57,49,28,3,61,58,42,50,38,29,17,4,62,47,59,36,45,43,51,22,53,39,33,30,24,18,12,5,63,55,48,27,60,41,37,16,46,35,44,21,52,32,23,11,54,26,40,15,34,20,31,10,25,14,19,9,13,8,7,6]) hn1 hv1 Tryz.underlying249 Tryz.underlying5 (by kernel_rfl) (by kernel_rfl) rfl (by decide) hd1
 have c2:=tab_cells (ns:=[1,10,100,1000,10000,100000,1000000,10000000,100000000,1000000000,10000000000,100000000000,1000000000000,10000000000000,100000000000000,1000000000000000,10000000000000000,100000000000000000,1000000000000000000,10000000000000000000]) hn2 hv2 Tryz.underlying282 Tryz.underlying186 (by kernel_rfl) (by kernel_rfl) rfl (by decide) hd2
 refine ⟨fun p hp=>?_,fun g hg=>?_⟩
 rotate_left
 ·simp only [gErr,List.nil_append,List.mem_append,List.mem_singleton] at hg
  rcases hg with rfl | rfl
  ·exact e5
  ·exact e4
 simp only [gTab,List.nil_append,List.mem_append,List.mem_singleton] at hp
 rcases hp with (rfl | rfl) | rfl
 ·exact c1
 ·exact c0
 ·exact c2
end Go.Proofs.YtpaklfjlbocfcaaGreatDoor

/- The library's functions as the shelf knows them: this program has them. Printed by a program. By an AI agent;nothing here is trusted. -/
namespace Go.Proofs.YtpaklfjlbocfcaaGreatDoor
def shRen:Go.Shelf.Ren:=⟨fun x=>match x with | 129=>223 | 171=>145 | 172=>149 | 205=>230 | 243=>191 | 244=>194 | 245=>195 | 246=>211 | 247=>214 | 279=>215 | 280=>216 | 281=>217 | 282=>218 | 283=>224 | 284=>225 | 285=>226 | 286=>227 | 287=>228 | 316=>229 | 317=>235 | 318=>236 | 319=>237 | 320=>127 | 321=>238 | 322=>239 | 337=>176 | 338=>177 | n=>n,fun x=>match x with | 0=>0 | 2=>2 | 3=>3 | 4=>4 | 5=>5 | 9=>9 | 20=>20 | 21=>21 | 37=>207 | 46=>184 | 51=>230 | 53=>186 | 75=>212 | 76=>213 | 80=>198 | 85=>259 | 127=>242 | 143=>285 | 145=>287 | 167=>258 | 168=>261 | 171=>266 | 173=>268 | 175=>270 | 210=>274 | 212=>282 | 213=>283 | 232=>248 | 233=>249 | n=>n,fun x=>match x with | 15=>5 | 16=>6 | 17=>9 | 18=>0 | 19=>1 | n=>n⟩
set_option maxRecDepth 100000 in
theorem sh_f129:Tryz.prog.funcs[shRen.f 129]?=some (Go.Proofs.Body.n129 shRen):=by kernel_rfl
set_option maxRecDepth 100000 in
theorem sh_f171:Tryz.prog.funcs[shRen.f 171]?=some (Go.Proofs.Body.n171 shRen):=by kernel_rfl
set_option maxRecDepth 100000 in
theorem sh_f243:Tryz.prog.funcs[shRen.f 243]?=some (Go.Proofs.Body.n243 shRen):=by kernel_rfl
set_option maxRecDepth 100000 in
theorem sh_f246:Tryz.prog.funcs[shRen.f 246]?=some (Go.Proofs.Body.n246 shRen):=by kernel_rfl
set_option maxRecDepth 100000 in
theorem sh_f283:Tryz.prog.funcs[shRen.f 283]?=some (Go.Proofs.Body.n283 shRen):=by kernel_rfl
set_option maxRecDepth 100000 in
theorem sh_f284:Tryz.prog.funcs[shRen.f 284]?=some (Go.Proofs.Body.n284 shRen):=by kernel_rfl
set_option maxRecDepth 100000 in
theorem sh_f285:Tryz.prog.funcs[shRen.f 285]?=some (Go.Proofs.Body.n285 shRen):=by kernel_rfl
set_option maxRecDepth 100000 in
theorem sh_f286:Tryz.prog.funcs[shRen.f 286]?=some (Go.Proofs.Body.n286 shRen):=by kernel_rfl
set_option maxRecDepth 100000 in
theorem sh_f317:Tryz.prog.funcs[shRen.f 317]?=some (Go.Proofs.Body.n317 shRen):=by kernel_rfl
set_option maxRecDepth 100000 in
theorem sh_f318:Tryz.prog.funcs[shRen.f 318]?=some (Go.Proofs.Body.n318 shRen):=by kernel_rfl
set_option maxRecDepth 100000 in
theorem sh_f319:Tryz.prog.funcs[shRen.f 319]?=some (Go.Proofs.Body.n319 shRen):=by kernel_rfl
set_option maxRecDepth 100000 in
theorem sh_f320:Tryz.prog.funcs[shRen.f 320]?=some (Go.Proofs.Body.n320 shRen):=by kernel_rfl
set_option maxRecDepth 100000 in
theorem sh_f337:Tryz.prog.funcs[shRen.f 337]?=some (Go.Proofs.Body.n337 shRen):=by kernel_rfl
set_option maxRecDepth 100000 in
theorem sh_f338:Tryz.prog.funcs[shRen.f 338]?=some (Go.Proofs.Body.n338 shRen):=by kernel_rfl
set_option maxRecDepth 100000 in
theorem sh_f172:Tryz.prog.funcs[shRen.f 172]?=some (Go.Proofs.Body.n172 shRen):=by kernel_rfl
set_option maxRecDepth 100000 in
theorem sh_f205:Tryz.prog.funcs[shRen.f 205]?=some (Go.Proofs.Body.n205 shRen):=by kernel_rfl
set_option maxRecDepth 100000 in
theorem sh_f244:Tryz.prog.funcs[shRen.f 244]?=some (Go.Proofs.Body.n244 shRen):=by kernel_rfl
set_option maxRecDepth 100000 in
theorem sh_f245:Tryz.prog.funcs[shRen.f 245]?=some (Go.Proofs.Body.n245 shRen):=by kernel_rfl
set_option maxRecDepth 100000 in
theorem sh_f247:Tryz.prog.funcs[shRen.f 247]?=some (Go.Proofs.Body.n247 shRen):=by kernel_rfl
set_option maxRecDepth 100000 in
theorem sh_f279:Tryz.prog.funcs[shRen.f 279]?=some (Go.Proofs.Body.n279 shRen):=by kernel_rfl
set_option maxRecDepth 100000 in
theorem sh_f280:Tryz.prog.funcs[shRen.f 280]?=some (Go.Proofs.Body.n280 shRen):=by kernel_rfl
set_option maxRecDepth 100000 in
theorem sh_f281:Tryz.prog.funcs[shRen.f 281]?=some (Go.Proofs.Body.n281 shRen):=by kernel_rfl
set_option maxRecDepth 100000 in
theorem sh_f282:Tryz.prog.funcs[shRen.f 282]?=some (Go.Proofs.Body.n282 shRen):=by kernel_rfl
set_option maxRecDepth 100000 in
theorem sh_f287:Tryz.prog.funcs[shRen.f 287]?=some (Go.Proofs.Body.n287 shRen):=by kernel_rfl
set_option maxRecDepth 100000 in
theorem sh_f316:Tryz.prog.funcs[shRen.f 316]?=some (Go.Proofs.Body.n316 shRen):=by kernel_rfl
set_option maxRecDepth 100000 in
theorem sh_f321:Tryz.prog.funcs[shRen.f 321]?=some (Go.Proofs.Body.n321 shRen):=by kernel_rfl
set_option maxRecDepth 100000 in
theorem sh_f322:Tryz.prog.funcs[shRen.f 322]?=some (Go.Proofs.Body.n322 shRen):=by kernel_rfl
theorem sh_n171:Go.Proofs.LaysM.n171 Tryz.prog shRen :=
 {mixed:=by kernel_rfl,
  f129:=sh_f129,
  f171:=sh_f171,
  f243:=sh_f243,
  f246:=sh_f246,
  f283:=sh_f283,
  f284:=sh_f284,
  f285:=sh_f285,
  f286:=sh_f286,
  f317:=sh_f317,
  f318:=sh_f318,
  f319:=sh_f319,
  f320:=sh_f320,
  f337:=sh_f337,
  f338:=sh_f338,
  t0:=Tryz.underlying0,
  a0:=Tryz.isAgg0,
  z0:=Tryz.sizeOf0,
  v0:=Tryz.zeroValue0,
  t2:=Tryz.underlying2,
  a2:=Tryz.isAgg2,
  z2:=Tryz.sizeOf2,
  v2:=Tryz.zeroValue2,
  t3:=Tryz.underlying3,
  a3:=Tryz.isAgg3,
  z3:=Tryz.sizeOf3,
  v3:=Tryz.zeroValue3,
  t4:=Tryz.underlying4,
  a4:=Tryz.isAgg4,
  z4:=Tryz.sizeOf4,
  v4:=Tryz.zeroValue4,
  t5:=Tryz.underlying5,
  a5:=Tryz.isAgg5,
  z5:=Tryz.sizeOf5,
  v5:=Tryz.zeroValue5,
  t9:=Tryz.underlying9,
  a9:=Tryz.isAgg9,
  z9:=Tryz.sizeOf9,
  v9:=Tryz.zeroValue9,
  t20:=Tryz.underlying20,
  a20:=Tryz.isAgg20,
  z20:=Tryz.sizeOf20,
  v20:=Tryz.zeroValue20,
  t37:=Tryz.underlying207,
  a37:=Tryz.isAgg207,
  z37:=Tryz.sizeOf207,
  v37:=Tryz.zeroValue207,
  t46:=Tryz.underlying184,
  a46:=Tryz.isAgg184,
  z46:=Tryz.sizeOf184,
  v46:=Tryz.zeroValue184,
  t51:=Tryz.underlying230,
  a51:=Tryz.isAgg230,
  z51:=Tryz.sizeOf230,
  v51:=Tryz.zeroValue230,
  t53:=Tryz.underlying186,
  a53:=Tryz.isAgg186,
  z53:=Tryz.sizeOf186,
  v53:=Tryz.zeroValue186,
  t171:=Tryz.underlying266,
  a171:=Tryz.isAgg266,
  z171:=Tryz.sizeOf266,
  v171:=Tryz.zeroValue266,
  t173:=Tryz.underlying268,
  a173:=Tryz.isAgg268,
  z173:=Tryz.sizeOf268,
  v173:=Tryz.zeroValue268,
  t212:=Tryz.underlying282,
  a212:=Tryz.isAgg282,
  z212:=Tryz.sizeOf282,
  v212:=Tryz.zeroValue282,
  t213:=Tryz.underlying283,
  a213:=Tryz.isAgg283,
  z213:=Tryz.sizeOf283,
  t232:=Tryz.underlying248,
  a232:=Tryz.isAgg248,
  z232:=Tryz.sizeOf248,
  v232:=Tryz.zeroValue248,
  t233:=Tryz.underlying249,
  a233:=Tryz.isAgg249,
  z233:=Tryz.sizeOf249,
  v233:=Tryz.zeroValue249,
  g17:=by kernel_rfl,
  g18:=by kernel_rfl,
  g19:=by kernel_rfl,
  i0:=by kernel_rfl,
  i2:=by kernel_rfl,
  i3:=by kernel_rfl,
  i4:=by kernel_rfl,
  i5:=by kernel_rfl,
  i9:=by kernel_rfl,
  i20:=by kernel_rfl,
  i37:=by kernel_rfl,
  i46:=by kernel_rfl,
  i51:=by kernel_rfl,
  i53:=by kernel_rfl,
  i171:=by kernel_rfl,
  i173:=by kernel_rfl,
  i212:=by kernel_rfl,
  i232:=by kernel_rfl,
  i233:=by kernel_rfl,
  m17:=by kernel_rfl,
  m18:=by kernel_rfl,
  m19:=by kernel_rfl }
theorem sh_n172:Go.Proofs.LaysC.n172 Tryz.prog shRen :=
 {mixed:=by kernel_rfl,
  f129:=sh_f129,
  f171:=sh_f171,
  f172:=sh_f172,
  f205:=sh_f205,
  f243:=sh_f243,
  f244:=sh_f244,
  f245:=sh_f245,
  f246:=sh_f246,
  f247:=sh_f247,
  f279:=sh_f279,
  f280:=sh_f280,
  f281:=sh_f281,
  f282:=sh_f282,
  f283:=sh_f283,
  f284:=sh_f284,
  f285:=sh_f285,
  f286:=sh_f286,
  f287:=sh_f287,
  f316:=sh_f316,
  f317:=sh_f317,
  f318:=sh_f318,
  f319:=sh_f319,
  f320:=sh_f320,
  f321:=sh_f321,
  f322:=sh_f322,
  f337:=sh_f337,
  f338:=sh_f338,
  t0:=Tryz.underlying0,
  a0:=Tryz.isAgg0,
  z0:=Tryz.sizeOf0,
  v0:=Tryz.zeroValue0,
  t2:=Tryz.underlying2,
  a2:=Tryz.isAgg2,
  z2:=Tryz.sizeOf2,
  v2:=Tryz.zeroValue2,
  t3:=Tryz.underlying3,
  a3:=Tryz.isAgg3,
  z3:=Tryz.sizeOf3,
  v3:=Tryz.zeroValue3,
  t4:=Tryz.underlying4,
  a4:=Tryz.isAgg4,
  z4:=Tryz.sizeOf4,
  v4:=Tryz.zeroValue4,
  t5:=Tryz.underlying5,
  a5:=Tryz.isAgg5,
  z5:=Tryz.sizeOf5,
  v5:=Tryz.zeroValue5,
  t9:=Tryz.underlying9,
  a9:=Tryz.isAgg9,
  z9:=Tryz.sizeOf9,
  v9:=Tryz.zeroValue9,
  t20:=Tryz.underlying20,
  a20:=Tryz.isAgg20,
  z20:=Tryz.sizeOf20,
  v20:=Tryz.zeroValue20,
  t21:=Tryz.underlying21,
  a21:=Tryz.isAgg21,
  z21:=Tryz.sizeOf21,
  v21:=Tryz.zeroValue21,
  t37:=Tryz.underlying207,
  a37:=Tryz.isAgg207,
  z37:=Tryz.sizeOf207,
  v37:=Tryz.zeroValue207,
  t46:=Tryz.underlying184,
  a46:=Tryz.isAgg184,
  z46:=Tryz.sizeOf184,
  v46:=Tryz.zeroValue184,
  t51:=Tryz.underlying230,
  a51:=Tryz.isAgg230,
  z51:=Tryz.sizeOf230,
  v51:=Tryz.zeroValue230,
  t53:=Tryz.underlying186,
  a53:=Tryz.isAgg186,
  z53:=Tryz.sizeOf186,
  v53:=Tryz.zeroValue186,
  t75:=Tryz.underlying212,
  a75:=Tryz.isAgg212,
  z75:=Tryz.sizeOf212,
  v75:=Tryz.zeroValue212,
  t76:=Tryz.underlying213,
  a76:=Tryz.isAgg213,
  z76:=Tryz.sizeOf213,
  v76:=Tryz.zeroValue213,
  t85:=Tryz.underlying259,
  a85:=Tryz.isAgg259,
  z85:=Tryz.sizeOf259,
  v85:=Tryz.zeroValue259,
  t127:=Tryz.underlying242,
  a127:=Tryz.isAgg242,
  z127:=Tryz.sizeOf242,
  v127:=Tryz.zeroValue242,
  t143:=Tryz.underlying285,
  a143:=Tryz.isAgg285,
  z143:=Tryz.sizeOf285,
  v143:=Tryz.zeroValue285,
  t145:=Tryz.underlying287,
  a145:=Tryz.isAgg287,
  z145:=Tryz.sizeOf287,
  v145:=Tryz.zeroValue287,
  t167:=Tryz.underlying258,
  a167:=Tryz.isAgg258,
  z167:=Tryz.sizeOf258,
  v167:=Tryz.zeroValue258,
  t168:=Tryz.underlying261,
  a168:=Tryz.isAgg261,
  z168:=Tryz.sizeOf261,
  v168:=Tryz.zeroValue261,
  t171:=Tryz.underlying266,
  a171:=Tryz.isAgg266,
  z171:=Tryz.sizeOf266,
  v171:=Tryz.zeroValue266,
  t173:=Tryz.underlying268,
  a173:=Tryz.isAgg268,
  z173:=Tryz.sizeOf268,
  v173:=Tryz.zeroValue268,
  t175:=Tryz.underlying270,
  a175:=Tryz.isAgg270,
  z175:=Tryz.sizeOf270,
  v175:=Tryz.zeroValue270,
  t210:=Tryz.underlying274,
  a210:=Tryz.isAgg274,
  z210:=Tryz.sizeOf274,
  v210:=Tryz.zeroValue274,
  t212:=Tryz.underlying282,
  a212:=Tryz.isAgg282,
  z212:=Tryz.sizeOf282,
  v212:=Tryz.zeroValue282,
  t213:=Tryz.underlying283,
  a213:=Tryz.isAgg283,
  z213:=Tryz.sizeOf283,
  t232:=Tryz.underlying248,
  a232:=Tryz.isAgg248,
  z232:=Tryz.sizeOf248,
  v232:=Tryz.zeroValue248,
  t233:=Tryz.underlying249,
  a233:=Tryz.isAgg249,
  z233:=Tryz.sizeOf249,
  v233:=Tryz.zeroValue249,
  g15:=by kernel_rfl,
  g16:=by kernel_rfl,
  g17:=by kernel_rfl,
  g18:=by kernel_rfl,
  g19:=by kernel_rfl,
  t80:=Tryz.underlying198,
  a80:=Tryz.isAgg198,
  z80:=Tryz.sizeOf198,
  v80:=Tryz.zeroValue198,
  i0:=by kernel_rfl,
  i2:=by kernel_rfl,
  i3:=by kernel_rfl,
  i4:=by kernel_rfl,
  i5:=by kernel_rfl,
  i9:=by kernel_rfl,
  i20:=by kernel_rfl,
  i21:=by kernel_rfl,
  i37:=by kernel_rfl,
  i46:=by kernel_rfl,
  i51:=by kernel_rfl,
  i53:=by kernel_rfl,
  i75:=by kernel_rfl,
  i76:=by kernel_rfl,
  i80:=by kernel_rfl,
  i85:=by kernel_rfl,
  i127:=by kernel_rfl,
  i143:=by kernel_rfl,
  i145:=by kernel_rfl,
  i167:=by kernel_rfl,
  i168:=by kernel_rfl,
  i171:=by kernel_rfl,
  i173:=by kernel_rfl,
  i175:=by kernel_rfl,
  i210:=by kernel_rfl,
  i212:=by kernel_rfl,
  i232:=by kernel_rfl,
  i233:=by kernel_rfl,
  m15:=by kernel_rfl,
  m16:=by kernel_rfl,
  m17:=by kernel_rfl,
  m18:=by kernel_rfl,
  m19:=by kernel_rfl,
  c0:=by kernel_rfl,
  c2:=by kernel_rfl,
  c3:=by kernel_rfl,
  c4:=by kernel_rfl,
  c5:=by kernel_rfl,
  c9:=by kernel_rfl,
  c20:=by kernel_rfl,
  c21:=by kernel_rfl,
  c37:=by kernel_rfl,
  c46:=by kernel_rfl,
  c51:=by kernel_rfl,
  c53:=by kernel_rfl,
  c75:=by kernel_rfl,
  c76:=by kernel_rfl,
  c80:=by kernel_rfl,
  c85:=by kernel_rfl,
  c127:=by kernel_rfl,
  c143:=by kernel_rfl,
  c145:=by kernel_rfl,
  c167:=by kernel_rfl,
  c168:=by kernel_rfl,
  c171:=by kernel_rfl,
  c173:=by kernel_rfl,
  c175:=by kernel_rfl,
  c210:=by kernel_rfl,
  c212:=by kernel_rfl,
  c213:=by kernel_rfl,
  c232:=by kernel_rfl,
  c233:=by kernel_rfl }
end Go.Proofs.YtpaklfjlbocfcaaGreatDoor

/- Contracts off the library's shelf: lengths in bits,numerals. By an AI agent;nothing here is trusted. -/
namespace Go.Proofs.YtpaklfjlbocfcaaGreatDoor
open Go.Av
open Go.RowKit (Below)

theorem vr_int {h:Array Obj} {ok:Nat→Prop} {ρ:Nat→Option Nat} {σ:Store} {k:IntKind} {n:Int} {v:Value} (hv:VR h ok ρ σ (.int k n) v):v=.int k n:=by cases hv;rfl
theorem vr_str {h:Array Obj} {ok:Nat→Prop} {ρ:Nat→Option Nat} {σ:Store} {l:List UInt8} {v:Value} (hv:VR h ok ρ σ (.str l) v):v=.string ⟨l.toArray⟩:=by
 cases hv with
 | str _ b hs =>
  congr 1
  cases b with
  | mk d=>simp only at hs;subst hs;simp
theorem args_1 {cargs:Array Value} {v:Value} (hlen:cargs.size=1) (h0:cargs.getD 0 undef=v):cargs=#[v]:=by
 apply Array.ext
 ·simpa using hlen
 ·intro i hi1 hi2
  simp at hi2
  subst hi2
  simpa [Array.getD,hi1] using h0
theorem args_2 {cargs:Array Value} {v u:Value} (hlen:cargs.size=2) (h0:cargs.getD 0 undef=v) (h1:cargs.getD 1 undef=u):cargs=#[v,u]:=by
 apply Array.ext
 ·simpa using hlen
 ·intro i hi1 hi2
  simp at hi2
  have:i=0∨i=1:=by omega
  rcases this with rfl | rfl
  ·simpa [Array.getD,hi1] using h0
  ·simpa [Array.getD,hi1] using h1
theorem below_drewN (w:World) (n:Nat):Below w.heap.size w (w.drewN n):=⟨rfl,rfl,rfl,Nat.le_refl _,fun _ _=>rfl⟩
theorem below_grow (w:World) (os:Array Obj):Below w.heap.size w (Go.Sort.grow w os) :=
 ⟨rfl,rfl,rfl,by simp [Go.Sort.grow],fun k hk=>by simp [Go.Sort.grow,Array.getElem?_append_left hk]⟩
theorem below_dg (w:World) (n:Nat) (os:Array Obj):Below w.heap.size w (Go.Sort.grow (w.drewN n) os):=(below_drewN w n).trans (below_grow (w.drewN n) os)

theorem tab_of {ok:Nat→Prop} {w:World} (hG:GOk ok w):Lib.TabIs Tryz.prog w "internal/strconv.uint64pow10" .u64 Lib.pow10Tab:=by
 have hm:(9,IntKind.u64,Lib.pow10Tab) ∈ gTab:=by
  have:Lib.pow10Tab=[1,10,100,1000,10000,100000,1000000,10000000,100000000,1000000000,10000000000,100000000000,1000000000000,10000000000000,100000000000000,1000000000000000,10000000000000000,100000000000000000,1000000000000000000,10000000000000000000]:=by decide +kernel
  rw [this];simp [gTab]
 obtain ⟨_,cur,ty,fr,h2,h3,h4⟩:=hG.1 _ hm
 have hg:Tryz.prog.globalNamed "internal/strconv.uint64pow10"=some 9:=by kernel_rfl
 unfold Lib.TabIs World.var?
 rw [hg]
 simp only [Option.bind_some,h2]
 congr 1
 apply Array.ext
 ·simpa using h3
 ·intro i h5 h6
  have hi:i<Lib.pow10Tab.length:=by simpa using h6
  have:=h4 i _ (List.getElem?_eq_getElem hi)
  rw [Array.getElem?_eq_getElem h5] at this
  simpa using this
theorem Itoa_s (n:Int) (hn:I64 n):Sound Tryz.prog 145 [.int .i64 n] (.str (Lib.itoa n)):=by
 intro w ok cargs hok hG hlen hargs
 rw [args_1 (by simpa using hlen) (vr_int (hargs 0 _ rfl))]
 refine .inr ⟨callFunc_enter Tryz.func145 (by kernel_rfl) rfl _,(Any.strconv_Itoa sh_n171 n hn.1 hn.2 w (tab_of hG)).mono fun e w' ⟨he,k,os,hw⟩=>⟨_,he,?_,?_⟩⟩
 ·rw [hw];exact below_dg _ _ _
 ·exact .str _ _ (by simp)
end Go.Proofs.YtpaklfjlbocfcaaGreatDoor

/- Contracts off the shelf: strconv.Atoi at every string. By an AI agent;nothing here is trusted. -/
namespace Go.Proofs.YtpaklfjlbocfcaaGreatDoor
open Go.Av
open Go.RowKit (Below)

def atoiV (s:List UInt8):AV:=match Lib.atoiAll s with
 | .ok v=>.tup [.int .i64 v,.nili]
 | .range=>.tup [.int .i64 (Lib.atoiSat s),.ifc]
 | _=>.tup [.int .i64 0,.ifc]
theorem err_of {ok:Nat→Prop} {w:World} (hG:GOk ok w) {g:Nat} (hg:g ∈ gErr):∃ ev,w.cell? ⟨g,0,none⟩=some ev∧(ev=.nilIface∨∃ te pe,ev=.iface te pe):=by
 obtain ⟨_,cur,ty,fr,te,pe,h1,h2⟩:=hG.2 g hg
 refine ⟨.iface te pe,?_,.inr ⟨te,pe,rfl⟩⟩
 rw [cell_of_heap h1];exact h2
theorem vr_pair {h:Array Obj} {ok:Nat→Prop} {ρ:Nat→Option Nat} {σ:Store} {x y:AV} {u v:Value} (h1:VR h ok ρ σ x u) (h2:VR h ok ρ σ y v):VR h ok ρ σ (.tup [x,y]) (.tuple #[u,v]):=by
 refine .tup _ _ rfl fun i c hc=>?_
 match i with
 | 0=>simp at hc;subst hc;exact h1
 | 1=>simp at hc;subst hc;exact h2
 | i+2=>simp at hc
theorem Atoi_s (s:List UInt8) (hs:s.length≤1000000):Sound Tryz.prog 149 [.str s] (atoiV s):=by
 intro w ok cargs hok hG hlen hargs
 rw [args_1 (by simpa using hlen) (vr_str (hargs 0 _ rfl))]
 refine .inr ⟨callFunc_enter Tryz.func149 (by kernel_rfl) rfl _,?_⟩
 have hsz:(⟨s.toArray⟩:ByteArray).size≤1000000:=by simpa [ByteArray.size] using hs
 unfold atoiV
 cases h:Lib.atoiAll s with
 | ok v =>
  refine (Any.strconv_Atoi_ok sh_n172 ⟨s.toArray⟩ (by omega) v (by simpa using h) w).mono fun e w' ⟨he,hw⟩=>⟨_,he,?_,vr_pair (.int _ _) .nili⟩
  rcases hw with hw | ⟨t,hw⟩ <;> rw [hw]
  ·exact Below.refl _ _
  ·exact Lib.bytesWorld_below _ _ _
 | range =>
  obtain ⟨ev,g1,g2⟩:=err_of hG (g:=6) (by simp [gErr])
  refine (Any.strconv_Atoi_range sh_n172 ⟨s.toArray⟩ (by omega) (by simpa using h) ev w g1 g2).mono fun e w' ⟨N,he,h1,h2,h3⟩=>⟨_,he,h3,?_⟩
  exact vr_pair (.int _ _) (.ifc _ _)
 | _ =>
  obtain ⟨ev,g1,g2⟩:=err_of hG (g:=5) (by simp [gErr])
  exact (Any.strconv_Atoi_syntax sh_n172 ⟨s.toArray⟩ (by omega) (by simpa using h) ev w g1 g2).mono fun e w' ⟨N,he,h1,h2,h3⟩=>⟨_,he,h3,vr_pair (.int _ _) (.ifc _ _)⟩
end Go.Proofs.YtpaklfjlbocfcaaGreatDoor

/- Off the library's shelf: the layings of strings.Index,Join,TrimPrefix. Printed by lays.py. By an AI agent;nothing here is trusted. -/
namespace Go.Proofs.YtpaklfjlbocfcaaGreatDoor
def sjRen:Go.Shelf.Ren:=⟨fun x=>match x with | 143=>198 | 156=>77 | 165=>146 | 166=>147 | 169=>148 | 217=>231 | 219=>220 | 224=>233 | 225=>232 | 240=>192 | 241=>193 | 266=>240 | 267=>234 | 276=>212 | 277=>213 | 314=>241 | n=>n,fun x=>match x with | 0=>0 | 3=>3 | 4=>4 | 5=>5 | 9=>9 | 20=>20 | 31=>138 | 37=>207 | 46=>184 | 51=>230 | 70=>206 | 72=>209 | 75=>212 | 76=>213 | 80=>198 | 127=>242 | 146=>288 | 164=>255 | n=>n,fun x=>match x with | 1=>4 | n=>n⟩
set_option maxRecDepth 100000 in
theorem sj_f143:Tryz.prog.funcs[sjRen.f 143]?=some (Go.Proofs.Body.n143 sjRen):=by kernel_rfl
set_option maxRecDepth 100000 in
theorem sj_f217:Tryz.prog.funcs[sjRen.f 217]?=some (Go.Proofs.Body.n217 sjRen):=by kernel_rfl
set_option maxRecDepth 100000 in
theorem sj_f219:Tryz.prog.funcs[sjRen.f 219]?=some (Go.Proofs.Body.n219 sjRen):=by kernel_rfl
set_option maxRecDepth 100000 in
theorem sj_f224:Tryz.prog.funcs[sjRen.f 224]?=some (Go.Proofs.Body.n224 sjRen):=by kernel_rfl
set_option maxRecDepth 100000 in
theorem sj_f225:Tryz.prog.funcs[sjRen.f 225]?=some (Go.Proofs.Body.n225 sjRen):=by kernel_rfl
set_option maxRecDepth 100000 in
theorem sj_f266:Tryz.prog.funcs[sjRen.f 266]?=some (Go.Proofs.Body.n266 sjRen):=by kernel_rfl
set_option maxRecDepth 100000 in
theorem sj_f267:Tryz.prog.funcs[sjRen.f 267]?=some (Go.Proofs.Body.n267 sjRen):=by kernel_rfl
set_option maxRecDepth 100000 in
theorem sj_f314:Tryz.prog.funcs[sjRen.f 314]?=some (Go.Proofs.Body.n314 sjRen):=by kernel_rfl
set_option maxRecDepth 100000 in
theorem sj_f156:Tryz.prog.funcs[sjRen.f 156]?=some (Go.Proofs.Body.n156 sjRen):=by kernel_rfl
set_option maxRecDepth 100000 in
theorem sj_f165:Tryz.prog.funcs[sjRen.f 165]?=some (Go.Proofs.Body.n165 sjRen):=by kernel_rfl
set_option maxRecDepth 100000 in
theorem sj_f166:Tryz.prog.funcs[sjRen.f 166]?=some (Go.Proofs.Body.n166 sjRen):=by kernel_rfl
set_option maxRecDepth 100000 in
theorem sj_f169:Tryz.prog.funcs[sjRen.f 169]?=some (Go.Proofs.Body.n169 sjRen):=by kernel_rfl
set_option maxRecDepth 100000 in
theorem sj_f240:Tryz.prog.funcs[sjRen.f 240]?=some (Go.Proofs.Body.n240 sjRen):=by kernel_rfl
set_option maxRecDepth 100000 in
theorem sj_f241:Tryz.prog.funcs[sjRen.f 241]?=some (Go.Proofs.Body.n241 sjRen):=by kernel_rfl
set_option maxRecDepth 100000 in
theorem sj_f276:Tryz.prog.funcs[sjRen.f 276]?=some (Go.Proofs.Body.n276 sjRen):=by kernel_rfl
set_option maxRecDepth 100000 in
theorem sj_f277:Tryz.prog.funcs[sjRen.f 277]?=some (Go.Proofs.Body.n277 sjRen):=by kernel_rfl
theorem sj_n143:Go.Proofs.Lays.n143 Tryz.prog sjRen :=
 {mixed:=by kernel_rfl,
  f143:=sj_f143,
  f217:=sj_f217,
  f219:=sj_f219,
  f224:=sj_f224,
  f225:=sj_f225,
  f266:=sj_f266,
  f267:=sj_f267,
  f314:=sj_f314,
  t3:=Tryz.underlying3,
  a3:=Tryz.isAgg3,
  z3:=Tryz.sizeOf3,
  v3:=Tryz.zeroValue3,
  t4:=Tryz.underlying4,
  a4:=Tryz.isAgg4,
  z4:=Tryz.sizeOf4,
  v4:=Tryz.zeroValue4,
  t5:=Tryz.underlying5,
  a5:=Tryz.isAgg5,
  z5:=Tryz.sizeOf5,
  v5:=Tryz.zeroValue5,
  t9:=Tryz.underlying9,
  a9:=Tryz.isAgg9,
  z9:=Tryz.sizeOf9,
  v9:=Tryz.zeroValue9,
  t46:=Tryz.underlying184,
  a46:=Tryz.isAgg184,
  z46:=Tryz.sizeOf184,
  v46:=Tryz.zeroValue184,
  t51:=Tryz.underlying230,
  a51:=Tryz.isAgg230,
  z51:=Tryz.sizeOf230,
  v51:=Tryz.zeroValue230,
  t146:=Tryz.underlying288,
  a146:=Tryz.isAgg288,
  z146:=Tryz.sizeOf288,
  v146:=Tryz.zeroValue288,
  g1:=by kernel_rfl }
theorem sj_n156:Go.Proofs.Lays.n156 Tryz.prog sjRen :=
 {mixed:=by kernel_rfl,
  f156:=sj_f156,
  f165:=sj_f165,
  f166:=sj_f166,
  f169:=sj_f169,
  f240:=sj_f240,
  f241:=sj_f241,
  f276:=sj_f276,
  f277:=sj_f277,
  t0:=Tryz.underlying0,
  a0:=Tryz.isAgg0,
  z0:=Tryz.sizeOf0,
  v0:=Tryz.zeroValue0,
  t3:=Tryz.underlying3,
  a3:=Tryz.isAgg3,
  z3:=Tryz.sizeOf3,
  v3:=Tryz.zeroValue3,
  t4:=Tryz.underlying4,
  a4:=Tryz.isAgg4,
  z4:=Tryz.sizeOf4,
  v4:=Tryz.zeroValue4,
  t9:=Tryz.underlying9,
  a9:=Tryz.isAgg9,
  z9:=Tryz.sizeOf9,
  v9:=Tryz.zeroValue9,
  t20:=Tryz.underlying20,
  a20:=Tryz.isAgg20,
  z20:=Tryz.sizeOf20,
  v20:=Tryz.zeroValue20,
  t31:=Tryz.underlying138,
  a31:=Tryz.isAgg138,
  z31:=Tryz.sizeOf138,
  v31:=Tryz.zeroValue138,
  t37:=Tryz.underlying207,
  a37:=Tryz.isAgg207,
  z37:=Tryz.sizeOf207,
  v37:=Tryz.zeroValue207,
  t70:=Tryz.underlying206,
  a70:=Tryz.isAgg206,
  z70:=Tryz.sizeOf206,
  v70:=Tryz.zeroValue206,
  t72:=Tryz.underlying209,
  a72:=Tryz.isAgg209,
  z72:=Tryz.sizeOf209,
  v72:=Tryz.zeroValue209,
  t75:=Tryz.underlying212,
  a75:=Tryz.isAgg212,
  z75:=Tryz.sizeOf212,
  v75:=Tryz.zeroValue212,
  t76:=Tryz.underlying213,
  a76:=Tryz.isAgg213,
  z76:=Tryz.sizeOf213,
  v76:=Tryz.zeroValue213,
  t127:=Tryz.underlying242,
  a127:=Tryz.isAgg242,
  z127:=Tryz.sizeOf242,
  v127:=Tryz.zeroValue242,
  t164:=Tryz.underlying255,
  a164:=Tryz.isAgg255,
  z164:=Tryz.sizeOf255,
  v164:=Tryz.zeroValue255 }
end Go.Proofs.YtpaklfjlbocfcaaGreatDoor

/- Contracts off the shelf: strings.Join. By an AI agent;nothing here is trusted. -/
namespace Go.Proofs.YtpaklfjlbocfcaaGreatDoor
open Go.Av
open Go.RowKit (Below)

theorem sjB:Builder.Extra Tryz.prog sjRen where
 sizeBuilder:=by kernel_rfl
 liesBuilder:=by kernel_rfl
 t5:=Tryz.underlying5
 a5:=Tryz.isAgg5
 z5:=Tryz.sizeOf5
 v5:=Tryz.zeroValue5
 infoByte:=by kernel_rfl
 cellsByte:=by kernel_rfl
 sizeByte:=by kernel_rfl
 neB5:=by decide
theorem ba_list (xs:List (List UInt8)):(xs.map fun x=>(⟨x.toArray⟩:ByteArray)).map (·.data.toList)=xs:=by
 induction xs with
 | nil=>rfl
 | cons x l ih=>simp only [List.map_cons,ih]
theorem Join_s (xs:List (List UInt8)) (sep:List UInt8) (hx:xs.length≤1000000) (hj:(Lib.join xs sep).length≤140737488355328):Sound Tryz.prog 77 [.sl (xs.map .str),.str sep] (.str (Lib.join xs sep)):=by
 intro w ok cargs hok hG hlen hargs
 have h0:=hargs 0 _ rfl
 have h1:=vr_str (hargs 1 _ rfl)
 obtain ⟨sv,hsv⟩:∃ sv,sv=cargs.getD 0 undef:=⟨_,rfl⟩
 rw [← hsv] at h0
 rw [args_2 (by simpa using hlen) hsv.symm h1]
 clear hargs hsv h1
 refine .inr ⟨callFunc_enter Tryz.func77 (by kernel_rfl) rfl _,?_⟩
 have hd:Lib.join ((xs.map fun x=>(⟨x.toArray⟩:ByteArray)).map (·.data.toList)) sep=Lib.join xs sep:=by rw [ba_list]
 generalize hes:xs.map AV.str=es at h0
 cases h0 with
 | sl0 A cap =>
  have hxs:xs=[]:=by cases xs <;> simp at hes ⊢
  subst hxs
  exact (Any.strings_Join_none sj_n156 sjB A cap ⟨sep.toArray⟩ w).mono fun e w' ⟨he,hw⟩=>⟨_,he,hw ▸ Below.refl _ _,.str _ _ (by simp [Lib.join])⟩
 | sl _ b off sz cap cur ty fr vals ho hcap hb hs hc hvv =>
  subst hes
  have hlt:b<w.heap.size:=(Array.getElem?_eq_some_iff.1 hb).1
  have:=Any.strings_Join sj_n156 sjB b off cap (xs.map fun x=>(⟨x.toArray⟩:ByteArray)) ⟨sep.toArray⟩ w ?_ hlt (by simpa using Nat.le_trans hx (by decide)) (by simpa using hcap) (by rw [ba_list];exact hj)
  ·rw [ba_list] at this
   simp only [List.length_map] at this ⊢
   exact this.mono fun e w' ⟨he,hw⟩=>⟨_,he,hw,.str _ _ (by simp)⟩
  ·intro j x hjx
   rw [List.getElem?_map] at hjx
   cases hy:xs[j]? with
   | none=>rw [hy] at hjx;cases hjx
   | some y =>
    rw [hy] at hjx
    simp at hjx;subst hjx
    have hm:(xs.map AV.str)[j]?=some (.str y):=by rw [List.getElem?_map,hy];rfl
    have hz:=(hs j _ hm).1
    have hc0:=hc j _ 0 (.str y) hm rfl
    have hv0:=hvv j _ 0 (.str y) hm rfl
    have hsz:sz=1:=by simpa [cellsOf] using hz.symm
    subst hsz
    rw [vr_str hv0] at hc0
    rw [cell_of_heap hb]
    simpa using hc0
end Go.Proofs.YtpaklfjlbocfcaaGreatDoor

/- Numerals,in plain Lean. By an AI agent;nothing here is trusted. -/
namespace Go.Lin
open Go.Lib

end Go.Lin

/- Numerals and what they spell,in plain Lean. By an AI agent;nothing here is trusted. -/
namespace Go.Lin
open Go.Lib

def isDig (c:UInt8):Bool:=decide (48≤c.toNat) && decide (c.toNat≤57)
def val (l:List UInt8):Nat:=l.foldl (fun a c=>a * 10+(c.toNat - 48)) 0
theorem val_snoc (l:List UInt8) (c:UInt8):val (l ++ [c])=val l * 10+(c.toNat - 48):=by simp [val,List.foldl_append]
theorem val_lt:∀ (l:List UInt8),l.all isDig=true→val l<10 ^ l.length:=by
 intro l
 generalize hr:l.reverse=r
 induction r generalizing l with
 | nil =>
  have:l=[]:=by simpa using hr
  subst this;intro _;decide
 | cons c r ih =>
  have:l=r.reverse ++ [c]:=by rw [← List.reverse_cons,← hr,List.reverse_reverse]
  subst this
  intro h
  simp only [List.all_append,List.all_cons,List.all_nil,Bool.and_true,Bool.and_eq_true] at h
  have h1:=ih r.reverse (List.reverse_reverse r) h.1
  have h2:=h.2
  unfold isDig at h2
  simp only [Bool.and_eq_true,decide_eq_true_eq] at h2
  rw [val_snoc,List.length_append,List.length_singleton,Nat.pow_succ]
  omega
theorem dig_ofNat {d:Nat} (h:d<10):(UInt8.ofNat (48+d)).toNat=48+d:=by
 rw [UInt8.toNat_ofNat'];omega
theorem dig_of {c:UInt8} (h:isDig c=true):c=UInt8.ofNat (48+(c.toNat - 48)):=by
 unfold isDig at h
 simp only [Bool.and_eq_true,decide_eq_true_eq] at h
 apply UInt8.toNat_inj.1
 rw [dig_ofNat (by omega)];omega
theorem dec_ne (u:Nat):decDigits u ≠ []:=by
 rw [decDigits];split <;> simp
theorem dec_dig:∀ u,(decDigits u).all isDig=true:=by
 intro u
 induction u using Nat.strongRecOn with
 | ind u ih =>
  rw [decDigits]
  split
  ·rename_i h
   simp only [isDig,List.all_cons,List.all_nil,Bool.and_true,dig_ofNat h,Bool.and_eq_true,decide_eq_true_eq];omega
  ·rename_i h
   simp only [List.all_append,ih (u / 10) (by omega),List.all_cons,List.all_nil,Bool.true_and,Bool.and_true]
   simp only [isDig,dig_ofNat (show u % 10<10 by omega),Bool.and_eq_true,decide_eq_true_eq];omega
theorem val_dec:∀ u,val (decDigits u)=u:=by
 intro u
 induction u using Nat.strongRecOn with
 | ind u ih =>
  rw [decDigits]
  split
  ·rename_i h
   simp only [val,List.foldl_cons,List.foldl_nil,dig_ofNat h];omega
  ·rename_i h
   rw [val_snoc,ih (u / 10) (by omega),dig_ofNat (by omega)];omega
theorem dec_head {u:Nat} (h:0<u):∃ c r,decDigits u=c :: r∧c.toNat ≠ 48:=by
 induction u using Nat.strongRecOn with
 | ind u ih =>
  rw [decDigits]
  split
  ·rename_i h'
   exact ⟨_,[],rfl,by rw [dig_ofNat h'];omega⟩
  ·rename_i h'
   obtain ⟨c,r,h1,h2⟩:=ih (u / 10) (by omega) (by omega)
   exact ⟨c,r ++ [UInt8.ofNat (48+u % 10)],by rw [h1];rfl,h2⟩
theorem dec_val:∀ (r:List UInt8) (c:UInt8),(c :: r).all isDig=true→(c.toNat ≠ 48∨r=[])→decDigits (val (c :: r))=c :: r:=by
 intro r
 generalize hr:r.reverse=s
 induction s generalizing r with
 | nil =>
  have:r=[]:=by simpa using hr
  subst this
  intro c h _
  simp only [List.all_cons,List.all_nil,Bool.and_true] at h
  have hv:val [c]=c.toNat - 48:=by simp [val]
  have h':=h
  unfold isDig at h'
  simp only [Bool.and_eq_true,decide_eq_true_eq] at h'
  rw [hv,decDigits,dif_pos (by omega),← dig_of h]
 | cons x s ih =>
  have:r=s.reverse ++ [x]:=by rw [← List.reverse_cons,← hr,List.reverse_reverse]
  subst this
  intro c h hc
  have hc':c.toNat ≠ 48:=hc.resolve_right (by simp)
  have e:c :: (s.reverse ++ [x])=(c :: s.reverse) ++ [x]:=rfl
  rw [e] at h ⊢
  simp only [List.all_append,List.all_cons,List.all_nil,Bool.and_true,Bool.and_eq_true] at h
  have h1:=ih s.reverse (List.reverse_reverse s) c (by simp only [List.all_cons,Bool.and_eq_true];exact h.1) (.inl hc')
  have hx:=h.2
  unfold isDig at hx
  simp only [Bool.and_eq_true,decide_eq_true_eq] at hx
  have hpos:0<val (c :: s.reverse):=by
   refine Nat.pos_of_ne_zero fun h0=>?_
   rw [h0,decDigits] at h1
   simp only [Nat.lt_irrefl,show (0:Nat)<10 by omega,dif_pos] at h1
   injection h1 with h1 _
   apply hc'
   rw [← h1];decide
  rw [val_snoc,decDigits,dif_neg (by omega)]
  have e1:(val (c :: s.reverse) * 10+(x.toNat - 48)) / 10=val (c :: s.reverse):=by omega
  have e2:(val (c :: s.reverse) * 10+(x.toNat - 48)) % 10=x.toNat - 48:=by omega
  rw [e1,e2,h1,← dig_of h.2]

def numD (k:Nat) (one:Bool) (ds:List UInt8):Option Nat:=if ds=[]∨k<ds.length∨(ds.head?=some 48∧one=true)∨ds.all isDig=false then none else some (val ds)
def numW (k:Nat) (w:List UInt8):Option Int:=if w.head?=some 45 then (numD k true w.tail).map fun (v:Nat) => -(v:Int) else (numD k (decide (1<w.length)) w).map fun (v:Nat)=>(v:Int)
theorem not45 {c:UInt8} (h:isDig c=true):c ≠ 45:=by
 intro e;subst e;revert h;decide
theorem numD_dec {k u:Nat} {one:Bool} (h:(decDigits u).length≤k) (h1:0<u∨one=false):numD k one (decDigits u)=some u:=by
 unfold numD
 rw [if_neg,val_dec]
 rintro (g | g | g | g)
 ·exact dec_ne _ g
 ·omega
 ·rcases h1 with h1 | h1
  ·obtain ⟨c,r,g1,g2⟩:=dec_head h1
   rw [g1] at g;simp at g;apply g2;rw [g.1];decide
  ·rw [h1] at g;exact absurd g.2 (by decide)
 ·rw [dec_dig] at g;cases g
theorem dec_numD {k u:Nat} {one:Bool} {ds:List UInt8} (h:numD k one ds=some u) (h1:one=decide (1<ds.length)∨one=true):ds=decDigits u∧ds.length≤k∧(one=true→0<u):=by
 unfold numD at h
 split at h
 ·cases h
 ·rename_i hn
  injection h with h
  cases ds with
  | nil=>exact absurd (.inl rfl) hn
  | cons c r =>
   have hd:(c :: r).all isDig=true:=by
    cases e:(c :: r).all isDig with
    | true=>rfl
    | false=>exact absurd (.inr (.inr (.inr e))) hn
   have hc:c.toNat ≠ 48∨r=[]:=by
    by_cases e:c.toNat=48
    ·right
     have ec:c=48:=UInt8.toNat_inj.1 e
     cases r with
     | nil=>rfl
     | cons x r=>exact absurd (.inr (.inr (.inl ⟨by rw [ec];rfl,by rcases h1 with h1 | h1 <;> simp [h1]⟩))) hn
    ·exact .inl e
   have hv:=dec_val r c hd hc
   refine ⟨by rw [← h,hv],Nat.le_of_not_lt fun g=>hn (.inr (.inl g)),fun ho=>?_⟩
   refine Nat.pos_of_ne_zero fun h0=>?_
   rw [h,h0,decDigits] at hv
   simp only [show (0:Nat)<10 by omega,dif_pos] at hv
   injection hv with g1 _
   exact hn (.inr (.inr (.inl ⟨by rw [← g1];rfl,ho⟩)))
theorem numW_itoa {k:Nat} {n:Int} (h:(decDigits n.natAbs).length≤k):numW k (itoa n)=some n:=by
 unfold itoa numW
 by_cases hn:n<0
 ·rw [if_pos hn,if_pos (by rfl),List.tail_cons,numD_dec h (.inl (by omega))]
  simp only [Option.map_some];congr 1;omega
 ·rw [if_neg hn,show n.toNat=n.natAbs by omega]
  obtain ⟨c,r,h1⟩:∃ c r,decDigits n.natAbs=c :: r:=List.exists_cons_of_ne_nil (dec_ne _)
  have hc:isDig c=true:=by have:=dec_dig n.natAbs;rw [h1] at this;simp at this;exact this.1
  have hd:¬ (decDigits n.natAbs).head?=some 45:=by rw [h1];simp;exact not45 hc
  rw [if_neg hd,numD_dec h]
  ·simp only [Option.map_some];congr 1;omega
  ·by_cases h0:0<n.natAbs
   ·exact .inl h0
   ·right
    have:n.natAbs=0:=by omega
    rw [this,decDigits];rfl
theorem itoa_numW {k:Nat} {w:List UInt8} {n:Int} (h:numW k w=some n):w=itoa n∧(decDigits n.natAbs).length≤k:=by
 unfold numW at h
 by_cases hw:w.head?=some 45
 ·rw [if_pos hw] at h
  obtain ⟨r,rfl⟩:∃ r,w=45 :: r:=by
   cases w with
   | nil=>cases hw
   | cons c r=>simp at hw;exact ⟨r,by rw [hw]⟩
  obtain ⟨u,h1,h2⟩:=Option.map_eq_some_iff.1 h
  obtain ⟨g1,g2,g3⟩:=dec_numD h1 (.inr rfl)
  have g3:=g3 rfl
  rw [List.tail_cons] at g1 g2
  have e:n.natAbs=u:=by omega
  rw [e]
  refine ⟨?_,by rw [← g1];exact g2⟩
  unfold itoa;rw [if_pos (by omega),e,g1]
 ·rw [if_neg hw] at h
  obtain ⟨u,h1,h2⟩:=Option.map_eq_some_iff.1 h
  obtain ⟨g1,g2,_⟩:=dec_numD h1 (.inl rfl)
  have e:n.natAbs=u:=by omega
  rw [e]
  refine ⟨?_,by rw [← g1];exact g2⟩
  unfold itoa;rw [if_neg (by omega),show n.toNat=u by omega,g1]

theorem parse_dig:∀ (l:List UInt8) (acc:Nat),l.all isDig=true→acc * 10 ^ l.length+val l<10000000000000000000→parseUint10 acc l=.ok (acc * 10 ^ l.length+val l)
 | [],acc,_,_=>by simp [parseUint10,val]
 | c :: r,acc,h,hb=>by
  simp only [List.all_cons,Bool.and_eq_true] at h
  have hc:=h.1
  unfold isDig at hc
  simp only [Bool.and_eq_true,decide_eq_true_eq] at hc
  have hv:∀ (r:List UInt8) (a:Nat),r.foldl (fun a c=>a * 10+(c.toNat - 48)) a=a * 10 ^ r.length+val r:=by
   intro r
   induction r with
   | nil=>intro a;simp [val]
   | cons x r ih =>
    intro a
    have e:val (x :: r)=(x.toNat - 48) * 10 ^ r.length+val r:=by
     show List.foldl _ (0 * 10+(x.toNat - 48)) r=_
     rw [ih];simp
    rw [List.foldl_cons,ih,e,List.length_cons,Nat.pow_succ,Nat.add_mul]
    rw [show a * (10 ^ r.length * 10)=a * 10 * 10 ^ r.length by rw [Nat.mul_comm (10 ^ r.length) 10,← Nat.mul_assoc]]
    omega
  have e:acc * 10 ^ (c :: r).length+val (c :: r)=(acc * 10+(c.toNat - 48)) * 10 ^ r.length+val r:=by
   rw [← hv,← hv];rfl
  rw [e] at hb ⊢
  have hp:1≤10 ^ r.length:=Nat.one_le_pow _ _ (by decide)
  have hle:acc * 10+(c.toNat - 48)≤(acc * 10+(c.toNat - 48)) * 10 ^ r.length:=Nat.le_mul_of_pos_right _ hp
  have ih:=parse_dig r (acc * 10+(c.toNat - 48)) h.2 hb
  simp only [parseUint10]
  rw [if_pos ⟨hc.1,hc.2⟩,if_neg (by omega),if_neg (by omega)]
  exact ih
theorem atoi_itoa {n:Int} (h:n.natAbs<9000000000000000000):atoiAll (itoa n)=.ok n:=by
 have hp:=parse_dig (decDigits n.natAbs) 0 (dec_dig _) (by rw [val_dec];omega)
 rw [val_dec,Nat.zero_mul,Nat.zero_add] at hp
 obtain ⟨c,r,h1⟩:∃ c r,decDigits n.natAbs=c :: r:=List.exists_cons_of_ne_nil (dec_ne _)
 have hc:isDig c=true:=by have:=dec_dig n.natAbs;rw [h1] at this;simp at this;exact this.1
 unfold isDig at hc
 simp only [Bool.and_eq_true,decide_eq_true_eq] at hc
 unfold itoa
 by_cases hn:n<0
 ·rw [if_pos hn]
  have e45:(45:UInt8).toNat=45:=by decide
  simp only [atoiAll,e45,or_true,if_true,parseMag,if_neg (dec_ne _),hp,not_true_eq_false,false_and,if_false,true_and]
  rw [if_neg (by omega)]
  congr 1;omega
 ·rw [if_neg hn,show n.toNat=n.natAbs by omega,h1]
  rw [h1] at hp
  have g1:¬ (c.toNat=43∨c.toNat=45):=by omega
  have g2:¬ c.toNat=45:=by omega
  have hm:parseMag (c :: r)=.ok n.natAbs:=by unfold parseMag;rw [if_neg (by simp)];exact hp
  unfold atoiAll
  have g3:¬ c.toNat=43:=by omega
  simp only [g3,hm,g2,or_self,not_false_eq_true,true_and,false_and,if_false]
  rw [if_neg (by omega)]
  congr 1;omega
end Go.Lin

/- Strings cut at a byte,joined,and read as numbers,in plain Lean. By an AI agent;nothing here is trusted. -/
namespace Go.Lin
open Go.Lib

def cut (c:UInt8):List UInt8→List (List UInt8)
 | []=>[[]]
 | x :: r=>if x=c then [] :: cut c r else (x :: (cut c r).headD []) :: (cut c r).tail
theorem cut_ne (c:UInt8) (s:List UInt8):cut c s ≠ []:=by
 cases s with
 | nil=>simp [cut]
 | cons x r=>unfold cut;split <;> simp
theorem cut_ht (c:UInt8) (s:List UInt8):(cut c s).headD [] :: (cut c s).tail=cut c s:=by
 have:=cut_ne c s
 cases h:cut c s with
 | nil=>exact absurd h this
 | cons a b=>rfl
theorem cut_no {c:UInt8}:∀ {s:List UInt8},(∀ x ∈ s,x ≠ c)→cut c s=[s]
 | [],_=>rfl
 | x :: r,h=>by
  have hr:=cut_no (c:=c) (s:=r) fun y hy=>h y (List.mem_cons_of_mem _ hy)
  unfold cut
  rw [if_neg (h x (by simp)),hr];rfl
theorem cut_app {c:UInt8}:∀ {p:List UInt8},(∀ x ∈ p,x ≠ c)→∀ r,cut c (p ++ c :: r)=p :: cut c r
 | [],_,r=>by rw [List.nil_append,cut,if_pos rfl]
 | x :: p,h,r=>by
  have hr:=cut_app (c:=c) (p:=p) (fun y hy=>h y (List.mem_cons_of_mem _ hy)) r
  rw [List.cons_append,cut,if_neg (h x (by simp)),hr];rfl
theorem cut_len {c:UInt8}:∀ {s:List UInt8},∀ p ∈ cut c s,p.length≤s.length
 | [],p,hp=>by rw [cut,List.mem_singleton] at hp;subst hp;exact Nat.le_refl _
 | y :: r,p,hp=>by
  have ih:=cut_len (c:=c) (s:=r)
  unfold cut at hp
  split at hp
  ·rcases List.mem_cons.1 hp with rfl | hp
   ·simp
   ·have:=ih p hp;simp;omega
  ·rcases List.mem_cons.1 hp with rfl | hp
   ·have:=ih ((cut c r).headD []) (by rw [← cut_ht c r];exact List.mem_cons_self)
    simp only [List.length_cons];omega
   ·have:=ih p (List.mem_of_mem_tail hp);simp only [List.length_cons];omega
theorem cut_num (c:UInt8):∀ s:List UInt8,(cut c s).length≤s.length+1
 | []=>by simp [cut]
 | y :: r=>by
  have ih:=cut_num c r
  unfold cut
  split
  ·simp;omega
  ·simp;omega
theorem idx_cases (c:UInt8):∀ s:List UInt8,(indexByte s c = -1∧∀ x ∈ s,x ≠ c)∨(0≤indexByte s c∧∃ p r,s=p ++ c :: r∧(p.length:Int)=indexByte s c∧∀ x ∈ p,x ≠ c)
 | []=>.inl ⟨rfl,fun x hx=>by cases hx⟩
 | b :: l=>by
  unfold indexByte
  by_cases hb:b=c
  ·subst hb
   right
   simp only [beq_self_eq_true,if_true]
   exact ⟨by omega,[],l,rfl,rfl,fun x hx=>by cases hx⟩
  ·have hb':(b == c)=false:=by simpa using hb
   rw [hb']
   rcases idx_cases c l with ⟨h1,h2⟩ | ⟨h1,p,r,h2,h3,h4⟩
   ·left
    have e:(if false=true then (0:Int) else if (indexByte l c == -1)=true then -1 else indexByte l c+1) = -1:=by rw [h1];rfl
    refine ⟨e,fun x hx=>?_⟩
    rcases List.mem_cons.1 hx with rfl | hx
    ·exact hb
    ·exact h2 x hx
   ·right
    have hne:(indexByte l c == -1)=false:=by
     have:indexByte l c ≠ -1:=by omega
     simpa using this
    simp only [hne,Bool.false_eq_true,if_false]
    refine ⟨by omega,b :: p,r,by rw [h2];rfl,by simp;omega,fun x hx=>?_⟩
    rcases List.mem_cons.1 hx with rfl | hx
    ·exact hb
    ·exact h4 x hx
theorem cut_join (c:UInt8):∀ (w:List UInt8) (ws:List (List UInt8)),(∀ v ∈ w :: ws,∀ x ∈ v,x ≠ c)→cut c (join (w :: ws) [c])=w :: ws
 | w,[],h=>by rw [join_one];exact cut_no (h w (by simp))
 | w,v :: ws,h=>by
  have ih:=cut_join c v ws fun u hu=>h u (List.mem_cons_of_mem _ hu)
  have e:join (w :: v :: ws) [c]=w ++ c :: join (v :: ws) [c]:=by
   rw [join_cons,join_cons];simp [joinTail]
  rw [e,cut_app (h w (by simp)),ih]
theorem join_cons2 (c:UInt8) (w v:List UInt8) (ws:List (List UInt8)):join (w :: v :: ws) [c]=w ++ c :: join (v :: ws) [c]:=by
 rw [join_cons,join_cons];simp [joinTail]
theorem join_snoc (c:UInt8):∀ (w:List UInt8) (ws:List (List UInt8)) (v:List UInt8),join (w :: ws ++ [v]) [c]=join (w :: ws) [c] ++ c :: v
 | w,[],v=>by
  show join (w :: v :: []) [c]=_
  rw [join_cons2,join_one,join_one]
 | w,u :: ws,v=>by
  show join (w :: u :: (ws ++ [v])) [c]=_
  have ih:=join_snoc c u ws v
  rw [List.cons_append] at ih
  rw [join_cons2,ih,join_cons2];simp

def numU (neg:Bool) (k:Nat) (w:List UInt8):Option Int:=if w.head?=some 45∧neg=false then none else numW k w
def nums (neg:Bool) (k:Nat):List (List UInt8)→Option (List Int)
 | []=>some []
 | w :: r=>match numU neg k w,nums neg k r with
  | some n,some l=>some (n :: l)
  | _,_=>none
theorem nums_len {neg:Bool} {k:Nat}:∀ {ws:List (List UInt8)} {l:List Int},nums neg k ws=some l→l.length=ws.length
 | [],l,h=>by simp [nums] at h;subst h;rfl
 | w :: r,l,h=>by
  unfold nums at h
  split at h
  ·rename_i h2
   injection h with h;subst h
   simp [nums_len h2]
  ·cases h
theorem nums_snoc {neg:Bool} {k:Nat} {w:List UInt8} {n:Int}:∀ {ws:List (List UInt8)} {l:List Int},nums neg k ws=some l→numU neg k w=some n→nums neg k (ws ++ [w])=some (l ++ [n])
 | [],l,h,h1=>by simp [nums] at h;subst h;simp [nums,h1]
 | v :: r,l,h,h1=>by
  unfold nums at h
  split at h
  ·rename_i a b hm1 hm2
   injection h with h;subst h
   rw [List.cons_append,nums,hm1,nums_snoc hm2 h1];rfl
  ·cases h
theorem nums_none {neg:Bool} {k:Nat} {w:List UInt8} (h:numU neg k w=none) (r:List (List UInt8)):∀ (ws:List (List UInt8)),nums neg k (ws ++ w :: r)=none
 | []=>by rw [List.nil_append,nums,h]
 | v :: ws=>by
  rw [List.cons_append,nums,nums_none h r ws]
  split
  ·rename_i h2;cases h2
  ·rfl
theorem head_itoa (n:Int):(itoa n).head?=some 45 ↔ n<0:=by
 unfold itoa
 by_cases hn:n<0
 ·rw [if_pos hn];simp [hn]
 ·rw [if_neg hn]
  obtain ⟨c,r,h1⟩:∃ c r,decDigits n.toNat=c :: r:=List.exists_cons_of_ne_nil (dec_ne _)
  have hc:isDig c=true:=by have:=dec_dig n.toNat;rw [h1] at this;simp at this;exact this.1
  have:=not45 hc
  rw [h1];simp [this,hn]
theorem numU_neg (neg:Bool) (k:Nat) (w:List UInt8):numU neg k w=(numW k w).bind fun n=>if n<0∧neg=false then none else some n:=by
 unfold numU
 cases h:numW k w with
 | none=>simp
 | some n =>
  obtain ⟨h1,h2⟩:=itoa_numW h
  have h3:=head_itoa n
  rw [← h1] at h3
  simp only [Option.bind_some,h3]
theorem dec_lt {u k:Nat} (h:(decDigits u).length≤k):u<10 ^ k:=by
 rw [decDigits_length] at h
 exact Nat.lt_of_lt_of_le (lt_pow_nDigits u) (Nat.pow_le_pow_right (by omega) h)
theorem numU_atoi {neg:Bool} {k:Nat} (hk:k≤18) {w:List UInt8} {n:Int}:numU neg k w=some n ↔ atoiAll w=.ok n∧(neg=true∨0≤n)∧itoa n=w∧(decDigits n.natAbs).length≤k:=by
 unfold numU
 constructor
 ·intro h
  split at h
  ·cases h
  ·rename_i hn
   obtain ⟨h1,h2⟩:=itoa_numW h
   have h3:=dec_lt h2
   have h4:(10:Nat) ^ k≤10 ^ 18:=Nat.pow_le_pow_right (by omega) hk
   refine ⟨by rw [h1];exact atoi_itoa (by omega),?_,h1.symm,h2⟩
   rw [h1,head_itoa] at hn
   cases neg with
   | true=>exact .inl rfl
   | false=>right;exact Int.not_lt.1 fun g=>hn ⟨g,rfl⟩
 ·rintro ⟨_,h2,rfl,h4⟩
  rw [if_neg]
  ·exact numW_itoa h4
  ·rw [head_itoa]
   rintro ⟨g1,g2⟩
   rcases h2 with h2 | h2
   ·rw [h2] at g2;cases g2
   ·omega
theorem itoa_trim (n:Int):trimPrefix (itoa n) [45]=decDigits n.natAbs:=by
 unfold trimPrefix hasPrefix
 by_cases hn:n<0
 ·unfold itoa;rw [if_pos hn];simp
 ·have h1:=head_itoa n
  have h2:([45]:List UInt8).isPrefixOf (itoa n)=false:=by
   cases he:itoa n with
   | nil=>rfl
   | cons c r =>
    rw [he] at h1
    simp only [List.head?_cons,Option.some.injEq] at h1
    have:¬ c=45:=fun h=>hn (h1.1 h)
    simp only [List.isPrefixOf,Bool.and_true,beq_eq_false_iff_ne,ne_eq]
    exact fun h=>this h.symm
  rw [h2]
  unfold itoa
  rw [if_neg hn]
  show decDigits n.toNat=_
  congr 1;omega
theorem itoa_bytes (n:Int):∀ x ∈ itoa n,x=45∨isDig x=true:=by
 intro x hx
 have hd:∀ u,∀ x ∈ decDigits u,isDig x=true:=fun u=>List.all_eq_true.1 (dec_dig u)
 unfold itoa at hx
 split at hx
 ·rcases List.mem_cons.1 hx with rfl | hx
  ·exact .inl rfl
  ·exact .inr (hd _ x hx)
 ·exact .inr (hd _ x hx)
theorem itoa_no (n:Int) {c:UInt8} (h1:c ≠ 45) (h2:isDig c=false):∀ x ∈ itoa n,x ≠ c:=by
 intro x hx e
 subst e
 rcases itoa_bytes n x hx with h | h
 ·exact h1 h
 ·rw [h2] at h;cases h
theorem nums_itoa {neg:Bool} {k:Nat}:∀ {l:List Int},(∀ n ∈ l,(neg=true∨0≤n)∧(decDigits n.natAbs).length≤k)→nums neg k (l.map itoa)=some l
 | [],_=>rfl
 | n :: l,h=>by
  have h1:numU neg k (itoa n)=some n:=by
   obtain ⟨g1,g2⟩:=h n (by simp)
   unfold numU
   rw [if_neg,numW_itoa g2]
   rw [head_itoa]
   rintro ⟨e1,e2⟩
   rcases g1 with g1 | g1
   ·rw [g1] at e2;cases e2
   ·omega
  rw [List.map_cons,nums,h1,nums_itoa (l:=l) fun m hm=>h m (List.mem_cons_of_mem _ hm)]
theorem dec_len_lt {u k:Nat} (hk:0<k) (h:u<10 ^ k):(decDigits u).length≤k:=by
 rw [decDigits_length]
 induction k generalizing u with
 | zero=>omega
 | succ k ih =>
  by_cases h10:u<10
  ·rw [nDigits_small h10];omega
  ·rw [nDigits_big h10]
   have hk':0<k:=by
    refine Nat.pos_of_ne_zero fun e=>?_
    subst e;omega
   have:u / 10<10 ^ k:=by rw [Nat.pow_succ] at h;omega
   have:=ih hk' this
   omega
theorem cut_words {c:UInt8} (h1:c ≠ 45) (h2:isDig c=false) (n:Int) (l:List Int):cut c (join ((n :: l).map itoa) [c])=(n :: l).map itoa:=by
 rw [List.map_cons]
 refine cut_join c _ _ fun v hv=>?_
 rcases List.mem_cons.1 hv with rfl | hv
 ·exact itoa_no n h1 h2
 ·obtain ⟨m,_,rfl⟩:=List.mem_map.1 hv
  exact itoa_no m h1 h2
end Go.Lin

/- Contracts: numbers as words. By an AI agent;nothing here is trusted. -/
namespace Go.Proofs.YtpaklfjlbocfcaaGreatDoor
open Go.Av

def strs (l:List (List UInt8)):List AV:=l.map .str
theorem maxLen_str:4000000000000≤maxLen:=by decide
theorem strs_length (l:List (List UInt8)):(strs l).length=l.length:=List.length_map _
theorem strs_append (l m:List (List UInt8)):strs (l ++ m)=strs l ++ strs m:=List.map_append
theorem strs_fx (l:List (List UInt8)):∀ x ∈ strs l,fx x=true:=by
 intro x hx
 obtain ⟨y,_,rfl⟩:=List.mem_map.1 hx
 rfl
theorem strs_fxB (l:List (List UInt8)):(strs l).all Go.Av.fx=true:=List.all_eq_true.2 (strs_fx l)
theorem strs_get (l:List (List UInt8)) (i:Nat) (h:i<l.length):(strs l)[i]?=some (.str l[i]):=by
 unfold strs;rw [List.getElem?_map,List.getElem?_eq_getElem h];rfl
theorem itoa_le {n:Int} (h:I64 n):(Lib.itoa n).length≤20:=by
 have h1:(Lib.decDigits n.natAbs).length≤19:=Lin.dec_len_lt (by decide) (by unfold I64 at h;omega)
 have h2:(Lib.decDigits n.toNat).length≤19:=Lin.dec_len_lt (by decide) (by unfold I64 at h;omega)
 unfold Lib.itoa
 split <;> simp <;> omega
theorem join_le (c:UInt8) (m:Nat):∀ ws:List (List UInt8),(∀ w ∈ ws,w.length≤m)→(Lib.join ws [c]).length≤ws.length * (m+1)
 | [],_=>by simp [Lib.join]
 | w :: ws,h=>by
  rw [Lib.join_cons]
  have h1:=h w (by simp)
  have:∀ l:List (List UInt8),(∀ w ∈ l,w.length≤m)→(Lib.joinTail [c] l).length≤l.length * (m+1):=by
   intro l
   induction l with
   | nil=>intro _;simp [Lib.joinTail]
   | cons x l ih =>
    intro hl
    have:=ih fun y hy=>hl y (by simp [hy])
    have hx:=hl x (by simp)
    simp only [Lib.joinTail,List.map_cons,List.flatten_cons,List.length_append,List.length_cons,List.length_nil,Nat.add_mul] at this ⊢
    omega
  have h2:=this ws fun y hy=>h y (by simp [hy])
  simp only [List.length_append,List.length_cons,Nat.add_mul]
  omega
end Go.Proofs.YtpaklfjlbocfcaaGreatDoor

/- strings.SplitSeq at one byte: what its closure yields. By an AI agent;nothing here is trusted. -/
namespace Go.Proofs.YtpaklfjlbocfcaaGreatDoor
open Go.Av
open Go.RowKit
attribute [local go_sem] Oper.semAt_some

theorem ba_cut (l x:List UInt8) (i j:Nat) (h:(l.drop i).take (j - i)=x):(⟨l.toArray⟩:ByteArray).extract i j=⟨x.toArray⟩:=by
 apply ByteArray.ext
 rw [ByteArray.data_extract]
 simp only [List.extract_toArray,List.extract_eq_take_drop]
 rw [h]
theorem wrap64_id {n:Int} (h : -9223372036854775808≤n∧n≤9223372036854775807):wrap64 n=n:=by
 unfold wrap64
 omega
set_option maxRecDepth 100000 in
theorem split1 (F:Fence) (hro:F.round=none) (hf0:F.fn 196) (hf1:F.fn 198) (l:Nat) (c:UInt8) (s:List UInt8) (hs:s.length≤1000000) (J:List (List UInt8)→List UInt8→World→Prop) (Jx:World→Prop) (b1 b2 b3:Nat)
  (hcell:∀ pre r w,J pre r w→w.cell? ⟨b1,0,none⟩=some (.string ⟨#[c]⟩)∧w.cell? ⟨b2,0,none⟩=some (.string ⟨r.toArray⟩)∧w.frozen? ⟨b2,0,none⟩=false∧w.cell? ⟨b3,0,none⟩=some (.int .i64 0))
  (hset:∀ pre r w r',J pre r w→J pre r' (w.setCell ⟨b2,0,none⟩ (.string ⟨r'.toArray⟩)))
  (hround:∀ pre x rest r w,pre ++ x :: rest=Lin.cut c s→J pre r w→∃ fn tmps assign body,(Instr.yield l #[.string ⟨x.toArray⟩]).run Tryz.prog w=.ok (.round l fn tmps assign body) w∧∀ rm,RoundIn F rm Tryz.prog l fn tmps assign body w fun en w'=>(en=.returned (.bool true)∧J (pre ++ [x]) r w')∨(en=.returned (.bool false)∧Jx w'))
  (hidx:∀ (n:Nat) (r:ByteArray) (w:World),CallsIn F n Tryz.prog 198 #[.string r,.string ⟨#[c]⟩] w fun e w'=>e=.returned (.int .i64 (Lib.indexByte r.data.toList c))∧w'=w)
  (W:World) (h0:J [] s W) :
  CallsIn F 1 Tryz.prog 196 #[.func (.yield l) #[] #[],.pointer (some ⟨b1,0,none⟩),.pointer (some ⟨b2,0,none⟩),.pointer (some ⟨b3,0,none⟩)] W fun e W'=>(∃ v,e=.returned v)∧((∃ r,J (Lin.cut c s) r W')∨Jx W'):=by
 refine callsIn_of_wp Tryz.func196 rfl hf0 ?_ hro
 simp only [Tryz.ntmps196,List.size_toArray,List.length_cons,List.length_nil,Nat.reduceAdd,Nat.reduceSub,Array.replicate_succ,Array.replicate_zero,List.push_toArray,List.append_toArray,List.nil_append,List.cons_append]
 obtain ⟨c1,c2,c3,c4⟩:=hcell _ _ _ h0
 have t9:=Tryz.underlying9;have a9:=Tryz.isAgg9;have z9:=Tryz.sizeOf9;have v9:=Tryz.zeroValue9;have u9:=run_underlying Tryz.underlying9
 have t3:=Tryz.underlying3;have a3:=Tryz.isAgg3;have z3:=Tryz.sizeOf3;have v3:=Tryz.zeroValue3;have u3:=run_underlying Tryz.underlying3
 have t4:=Tryz.underlying4;have a4:=Tryz.isAgg4;have z4:=Tryz.sizeOf4;have v4:=Tryz.zeroValue4;have u4:=run_underlying Tryz.underlying4
 gi_wp2
 trace_state
 gi_loopw [7] (fun _ wr=>∃ (pre:List (List UInt8)) (r:List UInt8),pre ++ Lin.cut c r=Lin.cut c s∧r.length≤s.length∧J pre r wr)
  (fun _ wr=>match wr.cell? ⟨b2,0,none⟩ with | some (.string b)=>b.size | _=>0)
 case atStart=>exact ⟨[],s,rfl,Nat.le_refl _,h0⟩
 case round =>
  obtain ⟨pre,r,hpre,hrl,hJ⟩:=hrel
  obtain ⟨d1,d2,d3,d4⟩:=hcell _ _ _ hJ
  rcases Lin.idx_cases c r with ⟨i1,i2⟩ | ⟨i1,p,r',i2,i3,i4⟩
  ·have hI:∀ (n:Nat) (w:World),CallsIn F n Tryz.prog 198 #[.string ⟨r.toArray⟩,.string ⟨#[c]⟩] w fun e w'=>e=.returned (.int .i64 (-1))∧w'=w:=fun n w=>(hidx n _ w).mono fun e w' ⟨h1,h2⟩=>⟨by rw [h1,i1],h2⟩
   rw [Lin.cut_no i2] at hpre
   obtain ⟨fn,tmps,assign,body,hy,hR⟩:=hround pre r [] r wr hpre hJ
   gi_wp2_with (gi_at_call 198;refine (hI _ _).mono ?_;rintro e w' ⟨rfl,rfl⟩)
   refine (hR _).mono ?_
   rintro e W' (⟨rfl,hJ'⟩ | ⟨rfl,hx⟩)
   ·gi_wp2
    go_end0
    exact ⟨⟨_,rfl⟩,.inl ⟨_,by rw [← hpre];exact hJ'⟩⟩
   ·gi_wp2
    go_end0
    exact ⟨⟨_,rfl⟩,.inr hx⟩
  ·subst i2
   have hpl:p.length+1+r'.length≤1000000:=by simp at hrl;omega
   have hI:∀ (n:Nat) (w:World),CallsIn F n Tryz.prog 198 #[.string ⟨(p ++ c :: r').toArray⟩,.string ⟨#[c]⟩] w fun e w'=>e=.returned (.int .i64 (p.length:Int))∧w'=w:=fun n w=>(hidx n _ w).mono fun e w' ⟨h1,h2⟩=>⟨by rw [h1,i3],h2⟩
   have hcut:Lin.cut c (p ++ c :: r')=p :: Lin.cut c r':=Lin.cut_app i4 r'
   rw [hcut] at hpre
   obtain ⟨fn,tmps,assign,body,hy,hR⟩:=hround pre p _ (p ++ c :: r') wr hpre hJ
   have he1:(⟨(p ++ c :: r').toArray⟩:ByteArray).extract 0 p.length=⟨p.toArray⟩:=ba_cut _ _ _ _ (by simp)
   have he2:(⟨(p ++ c :: r').toArray⟩:ByteArray).extract (p.length+1) (p.length+(r'.length+1))=⟨r'.toArray⟩:=ba_cut _ _ _ _ (by
    rw [show p ++ c :: r'=(p ++ [c]) ++ r' by simp,List.drop_left' (by simp)]
    exact List.take_of_length_le (by omega))
   have q1:wrap64 (p.length:Int)=(p.length:Int):=wrap64_id (by omega)
   have q2:wrap64 ((p.length:Int)+1)=(p.length:Int)+1:=wrap64_id (by omega)
   have q3:((p.length:Int)+1).toNat=p.length+1:=by omega
   have hpre2:(pre ++ [p]) ++ Lin.cut c r'=Lin.cut c s:=by rw [← hpre];simp
   clear hpre hcut i1 i3
   gi_wp2_with (gi_at_call 198;refine (hI _ _).mono ?_;rintro e w' ⟨rfl,rfl⟩)
   refine (hR _).mono ?_
   rintro e W' (⟨rfl,hJ'⟩ | ⟨rfl,hx⟩)
   ·obtain ⟨d1',d2',d3',d4'⟩:=hcell _ _ _ hJ'
    gi_wp2
    go_roundw
    case rel=>exact ⟨pre ++ [p],r',hpre2,by simp at hrl;omega,hset _ _ _ r' hJ'⟩
    case measure =>
     obtain ⟨_,e2,_⟩:=hcell _ _ _ (hset _ _ _ r' hJ')
     rw [e2,d2]
     simp [ByteArray.size]
     omega
   ·gi_wp2
    refine bodyPost_ret (results_none rfl _ _ _) rfl ?_
    exact ⟨⟨_,rfl⟩,.inr hx⟩
end Go.Proofs.YtpaklfjlbocfcaaGreatDoor

/- strings.SplitSeq at one byte: the call. By an AI agent;nothing here is trusted. -/
namespace Go.Proofs.YtpaklfjlbocfcaaGreatDoor
open Go.Av
open Go.RowKit

set_option maxHeartbeats 1000000 in
set_option maxRecDepth 100000 in
theorem SplitSeq_any (c:UInt8) (s:List UInt8) (w:World):Calls Tryz.prog 80 #[.string ⟨s.toArray⟩,.string ⟨#[c]⟩] w fun e w'=>∃ b1 b2 b3,
  e=.returned (.func (.func 196) #[] #[.pointer (some ⟨b1,0,none⟩),.pointer (some ⟨b2,0,none⟩),.pointer (some ⟨b3,0,none⟩)])∧(w.heap.size≤b1∧w.heap.size≤b2∧w.heap.size≤b3)∧(b2 ≠ b1∧b2 ≠ b3∧b1 ≠ b3) ∧
  w'.heap[b1]?=some (.cells #[.string ⟨#[c]⟩] 9 (0,0))∧w'.heap[b2]?=some (.cells #[.string ⟨s.toArray⟩] 9 (0,0))∧w'.heap[b3]?=some (.cells #[.int .i64 0] 3 (0,0))∧Below w.heap.size w w':=by
 have t9:=Tryz.underlying9;have a9:=Tryz.isAgg9;have z9:=Tryz.sizeOf9;have v9:=Tryz.zeroValue9;have u9:=run_underlying Tryz.underlying9
 have t3:=Tryz.underlying3;have a3:=Tryz.isAgg3;have z3:=Tryz.sizeOf3;have v3:=Tryz.zeroValue3;have u3:=run_underlying Tryz.underlying3
 have e213:∀ args w,(callFunc 150 args).run Tryz.prog w=.ok (.enter 150 args) w:=enters_of Tryz.func150 (by kernel_rfl) rfl
 go_enter Tryz.func80,Tryz.ntmps80
 go_wp2
 go_ret
 refine ⟨w.heap.size+1,w.heap.size,w.heap.size+1+1,rfl,⟨by omega,by omega,by omega⟩,⟨by omega,by omega,by omega⟩,?_,?_,?_,?_⟩
 ·exact (Below.heap_alloc _ _ _ (by rw [World.size_alloc,World.size_alloc];omega)).trans (by have:=World.alloc_heap_new (w.alloc (.cells #[.string ⟨s.toArray⟩] 9)) (.cells #[.string ⟨#[c]⟩] 9);rwa [World.size_alloc] at this)
 ·exact (Below.heap_alloc _ _ _ (by rw [World.size_alloc,World.size_alloc];omega)).trans ((Below.heap_alloc _ _ _ (by rw [World.size_alloc];omega)).trans (World.alloc_heap_new w _))
 ·have:=World.alloc_heap_new ((w.alloc (.cells #[.string ⟨s.toArray⟩] 9)).alloc (.cells #[.string ⟨#[c]⟩] 9)) (.cells #[.int .i64 0] 3)
  rwa [World.size_alloc,World.size_alloc] at this
 ·exact (((Below.refl _ w).alloc (Nat.le_refl _) _).alloc (by rw [World.size_alloc];omega) _).alloc (by rw [World.size_alloc,World.size_alloc];omega) _
theorem SplitSeq_s (c:UInt8) (s:List UInt8):SoundC Tryz.prog 80 [.str s,.str [c]] 196 [(9,.str [c]),(9,.str s),(3,.int .i64 0)]:=by
 refine ⟨⟨by simp,fun p hp=>?_⟩,?_⟩
 ·simp only [List.mem_cons,List.not_mem_nil,or_false] at hp
  rcases hp with rfl | rfl | rfl <;> exact ⟨rfl,rfl⟩
 ·intro w ok cargs hok hG hlen hargs
  rw [args_2 (by simpa using hlen) (vr_str (hargs 0 _ rfl)) (vr_str (hargs 1 _ rfl))]
  refine .inr ⟨callFunc_enter Tryz.func80 (by kernel_rfl) rfl _,(SplitSeq_any c s w).mono fun e w' ⟨b1,b2,b3,he,⟨h1,h2,h3⟩,⟨n1,n2,n3⟩,c1,c2,c3,hB⟩=>⟨_,he,hB,[b1,b2,b3],rfl,?_⟩⟩
  refine ⟨⟨h1,by simp;exact ⟨fun h=>n1 h.symm,n3⟩,_,_,c1,rfl,.str _ _ rfl⟩,⟨h2,by simp;exact n2,_,_,c2,rfl,.str _ _ (by simp)⟩,⟨h3,by simp,_,_,c3,rfl,.int _ _⟩,trivial⟩
end Go.Proofs.YtpaklfjlbocfcaaGreatDoor

/- A range over a function that keeps three cells of its own (SplitSeq at one byte): the rule. Printed by gensj3.py. By an AI agent;nothing here is trusted. -/
namespace Go.Av
open Go.RowKit (Below)

def IterC (P:Program) (g:FuncId) (ty ti:TypeId) (c:UInt8):Prop :=
 (∀ args w,(callFunc g args).run P w=.ok (.enter g args) w) ∧
 ∀ (l:Nat) (s:List UInt8),s.length≤1000000→∀ (J:List (List UInt8)→List UInt8→World→Prop) (Jx:World→Prop) (b1 b2 b3:Nat),
  (∀ pre r w,J pre r w→w.cell? ⟨b1,0,none⟩=some (.string ⟨#[c]⟩)∧w.cell? ⟨b2,0,none⟩=some (.string ⟨r.toArray⟩)∧w.frozen? ⟨b2,0,none⟩=false∧w.cell? ⟨b3,0,none⟩=some (.int .i64 0)) →
  (∀ pre r w r',J pre r w→J pre r' (w.setCell ⟨b2,0,none⟩ (.string ⟨r'.toArray⟩))) →
  (∀ pre x rest r w,pre ++ x :: rest=Lin.cut c s→J pre r w→RoundOk P l #[.string ⟨x.toArray⟩] w fun b w'=>(b=true∧J (pre ++ [x]) r w')∨(b=false∧Jx w')) →
  ∀ W,J [] s W→Calls P g (#[.func (.yield l) #[] #[]] ++ #[.pointer (some ⟨b1,0,none⟩),.pointer (some ⟨b2,0,none⟩),.pointer (some ⟨b3,0,none⟩)]) W fun en W'=>(∃ v,en=.returned v)∧((∃ r,J (Lin.cut c s) r W')∨Jx W')
def WeakK (ks:List Nat) (p q:Env × Store):Prop :=
 (∀ k ∈ ks,∃ K,p.2 k=some (some K))∧∀ (N B:Nat) (w0:World) (ok0:F0) (ok:Nat→Prop) (ρ:Nat→Option Nat) (a:Act) (w:World),ok0.s=noStore→Rel N B w0 ok0 ok ρ p.1 p.2 a w →
  ∃ ok' ρ',(∀ k ∈ ks,ρ' k=ρ k)∧(∀ b,ok b→ok' b)∧Rel N B w0 ok0 ok' ρ' q.1 q.2 a w
def rfQK (ks:List Nat) (Q:Exit→Env→Store→Prop) (e:Env) (s':Store):Exit→Env→Store→Prop:=fun ex _ s2=>match ex with
 | .normal=>WeakK ks (e,s2) (e,s')
 | .ret=>Q .ret e s2
 | .exit id=>Q (.exit id) e s2
 | _=>False
theorem ptr_at {h:Array Obj} {ok:Nat→Prop} {ρ:Nat→Option Nat} {s:Store} {k:Nat} {K:Blk} {v:Value} (hk:s k=some (some K)) (hv:VR h ok ρ s (.ptr k 0 0) v):∃ b,ρ k=some b∧v=.pointer (some ⟨b,0,none⟩):=by
 cases hv with
 | ptrd _ _ _ A hd=>rw [hk] at hd;cases hd
 | ptr _ _ _ K' b hσ hr =>
  refine ⟨b,hr,?_⟩
  simp
theorem args_3 {vs:Array Value} {x y z:Value} (hlen:vs.size=3) (h0:vs.getD 0 undef=x) (h1:vs.getD 1 undef=y) (h2:vs.getD 2 undef=z):vs=#[x,y,z]:=by
 apply Array.ext
 ·simpa using hlen
 ·intro i hi1 hi2
  simp at hi2
  have:i=0∨i=1∨i=2:=by omega
  rcases this with rfl | rfl | rfl
  ·simpa [Array.getD,hi1] using h0
  ·simpa [Array.getD,hi1] using h1
  ·simpa [Array.getD,hi1] using h2

theorem str_val {h:Array Obj} {ok:Nat→Prop} {ρ:Nat→Option Nat} {σ:Store} {l:List UInt8} {v:Value} (hv:VR h ok ρ σ (.str l) v):v=.string ⟨l.toArray⟩:=by
 cases hv with
 | str _ b hs =>
  congr 1
  cases b with
  | mk d=>simp only at hs;subst hs;simp
theorem cell_at {N B:Nat} {w0:World} {ok0:F0} {ok:Nat→Prop} {ρ:Nat→Option Nat} {e:Env} {s:Store} {a:Act} {w:World} (hR:Rel N B w0 ok0 ok ρ e s a w) {k b:Nat} {t:TypeId} {x:AV} (hk:s k=some (some ⟨t,1,[x]⟩)) (hr:ρ k=some b) (hx:cellsOf x=[x]:=by rfl) :
  (∃ v,w.cell? ⟨b,0,none⟩=some v∧VR w.heap ok ρ s x v)∧w.frozen? ⟨b,0,none⟩=false:=by
 obtain ⟨_,_,_,cur,hcur,hH⟩:=hR.bound hk hr
 obtain ⟨h1,h2,h3⟩:=hH 0 x rfl
 obtain ⟨cv,p,q⟩:=h3 0 x (by rw [hx];rfl)
 refine ⟨⟨cv,?_,q⟩,?_⟩
 ·rw [cell_of_heap hcur];simpa using p
 ·simp [World.frozen?,hcur]
theorem set_at {N B:Nat} {w0:World} {ok0:F0} {ok:Nat→Prop} {ρ:Nat→Option Nat} {e:Env} {s:Store} {a:Act} {w:World} (hR:Rel N B w0 ok0 ok ρ e s a w) {k b:Nat} {t:TypeId} {x x':AV} (hk:s k=some (some ⟨t,1,[x]⟩)) (hr:ρ k=some b) (v:Value)
  (hx:cellsOf x'=[x']) (hc:cell x'=true) (hv:VR w.heap ok ρ s x' v):Rel N B w0 ok0 ok ρ e (upd s k (some (some ⟨t,1,[x']⟩))) a (w.setCell ⟨b,0,none⟩ v):=by
 obtain ⟨hbl,hBb,hnok,cur,hcur,hH⟩:=hR.bound hk hr
 have hsz:0<cur.size:=by
  obtain ⟨h1,h2,h3⟩:=hH 0 x rfl
  cases hcx:cellsOf x with
  | nil=>rw [hcx] at h1;cases h1
  | cons c0 r0 =>
   obtain ⟨cv,p,_⟩:=h3 0 c0 (by rw [hcx];rfl)
   have:=(Array.getElem?_eq_some_iff.1 p).1
   omega
 have hhb:(w.setCell ⟨b,0,none⟩ v).heap[b]?=some (.cells (cur.setIfInBounds 0 v) t (0,0)):=by
  simp only [World.setCell,Array.getElem?_modify,hcur]
  simp
 refine hR.set (K:=⟨t,1,[x]⟩) (cur':=cur.setIfInBounds 0 v) (es:=[x']) hk hr hcur (by simp) ?_ hhb (fun j hj=>Below.heap_setCell _ _ _ _ hj) ?_ ?_
 ·intro i y hy
  cases i with
  | zero =>
   simp at hy;subst hy
   refine ⟨by rw [hx];rfl,fun c hcc=>by rw [hx] at hcc;simp at hcc;subst hcc;exact hc,fun o c ho=>?_⟩
   rw [hx] at ho
   cases o with
   | zero=>simp at ho;subst ho;exact ⟨v,by simp [hsz],hv⟩
   | succ o=>simp at ho
  | succ i=>simp at hy
 ·exact (Below.refl b w).setCell (p:=⟨b,0,none⟩) (Nat.le_refl _) _
 ·simp [World.setCell]

section
variable {P:Program} {N B:Nat} {w0:World} {ok0:F0} {ok:Nat→Prop} {ρ:Nat→Option Nat} {e:Env} {s:Store} {a:Act} {w:World} {L:Nat} {r:Loop} {e1:Env} {a1:Act}
theorem Two.phaseG (h:Two N B w0 ok0 L r ok ρ s e a e1 a1 w) {m:MC} (hf:m.flat=true) {c:Code} (hc:cCode P N c=some m) {Q:Exit→Env→Store→Prop} (hm:AWM P N m Q e1 s) (l rm:Nat) :
  c.wpIn (Fr (some l)) rm P (fun x a1' w'=>∃ e1' s' ok' ρ',Two N B w0 ok0 L r ok' ρ' s' e a e1' a1' w'∧(∀ b,ok b→ok' b)∧(∀ b,ok b→w'.heap[b]?=w.heap[b]?)∧w.heap.size≤w'.heap.size∧Goes w.heap w'.heap ρ ρ' s s'∧Q x e1' s') a1 w:=by
 have hLlt:L<w.heap.size:=(Array.getElem?_eq_some_iff.1 h.hl).1
 have hR:Rel N B w ⟨fun b=>ok b∨b=L,ρ,s⟩ (fun b=>ok b∨b=L) ρ e1 s a1 w:=by
  constructor
  ·exact h.q1.defers.mono (fun _ h=>.inl h) (fun _ _=>rfl)
  ·exact h.q1.size
  ·exact Below.refl _ _
  ·exact h.q1.base
  ·exact fun n=>(h.q1.tmps n).mono (fun _ h=>.inl h) (fun _ _=>rfl) (Goes.refl _ _ _)
  ·exact fun b hb=>⟨hb.elim (fun hb=>(h.q1.oklt b hb).1) (fun hb=>hb ▸ hLlt),.inr hb⟩
  ·exact fun b hb=>hb
  ·exact fun k K hk=>(h.q1.live k K hk).mono (fun _ h=>.inl h) (fun _ _=>rfl) (Goes.refl _ _ _) rfl fun b hb=>⟨rfl,fun _ hno hY=>hY.elim hno fun hb'=>by
    subst hb'
    obtain ⟨_,_,_,cur,hcur,_⟩:=h.q1.bound hk hb
    rw [h.hl] at hcur;cases hcur⟩
  ·exact h.q1.inj
  ·exact fun _ _=>rfl
  ·exact Goes.refl _ _ _
  ·exact h.q1.gnow.mono (fun _ h=>.inl h) (fun _ _=>rfl)
 refine wpIn_mono (hm c hc (some l) rm B w _ _ ρ a1 w (.inl hf) hR) fun x a1' w' ⟨e1',s',ok1,ρ1,hR',hq⟩=>?_
 have hsame:∀ b,ok b→w'.heap[b]?=w.heap[b]?:=fun b hb=>hR'.kept b (.inl hb)
 have hL:w'.heap[L]?=some (.loop r):=(hR'.kept L (.inr rfl)).trans h.hl
 have hXc:∀ b,b=L→∀ cur ty fr,w'.heap[b]? ≠ some (.cells cur ty fr):=fun b hb cur ty fr hc=>by subst hb;rw [hL] at hc;cases hc
 have hok':∀ b,ok b→ok1 b∧¬ b=L:=fun b hb=>⟨hR'.okold b (.inl hb),fun hbL=>h.no (hbL ▸ hb)⟩
 have hsz:w.heap.size≤w'.heap.size:=hR'.below.size
 have oklt:∀ b,(ok1 b∧¬ b=L)→b<w'.heap.size∧(B≤b∨ok0 b):=fun b hb=>by
  obtain ⟨g1,g2⟩:=hR'.oklt b hb.1
  refine ⟨g1,g2.elim .inl fun g=>?_⟩
  rcases g with g | g
  ·exact (h.q.oklt b g).2
  ·exact absurd g hb.2
 refine ⟨e1',s',fun b=>ok1 b∧¬ b=L,ρ1,⟨?_,?_,hL,fun h=>h.2 rfl⟩,hok',hsame,hsz,hR'.goes,hq⟩
 ·constructor
  ·exact h.q.defers.mono hok' hsame
  ·exact h.q.size
  ·exact h.q.below.trans hR'.below
  ·exact hR'.base
  ·exact fun n=>(h.q.tmps n).mono hok' hsame hR'.goes
  ·exact oklt
  ·exact fun b hb=>hok' b (h.q.okold b hb)
  ·exact fun k K hk=>(hR'.live k K hk).less hXc
  ·exact hR'.inj
  ·exact fun b hb=>(hsame b (h.q.okold b hb)).trans (h.q.kept b hb)
  ·exact h.q.goes.trans hR'.goes
  ·exact h.q.gok
 ·constructor
  ·obtain ⟨Ds,d1,d2,d3⟩:=hR'.defers
   refine ⟨Ds,d1,d2,fun D hD=>⟨(d3 D hD).1,⟨(d3 D hD).2.1,fun hDL=>?_⟩,(d3 D hD).2.2⟩⟩
   subst hDL
   have:=(d3 D hD).2.2
   rw [hL] at this;cases this
  ·exact hR'.size
  ·exact h.q.below.trans hR'.below
  ·exact hR'.base
  ·exact fun n=>(hR'.tmps n).less hXc
  ·exact oklt
  ·exact fun b hb=>hok' b (h.q.okold b hb)
  ·exact fun k K hk=>(hR'.live k K hk).less hXc
  ·exact hR'.inj
  ·exact fun b hb=>(hsame b (h.q.okold b hb)).trans (h.q.kept b hb)
  ·exact h.q1.goes.trans hR'.goes
  ·exact h.q1.gok

theorem AWM.rfC {x:MX} {ps:List Nat} {ma mb:MC} {Q:Exit→Env→Store→Prop} {g:FuncId} {ty ti:TypeId} {ch:UInt8} {lst:List UInt8} {k1 k2 k3:Nat} (hx:x.ev e=.fn g [.ptr k1 0 0,.ptr k2 0 0,.ptr k3 0 0])
  (hk:s k1=some (some ⟨ty,1,[.str [ch]]⟩)∧s k2=some (some ⟨ty,1,[.str lst]⟩)∧s k3=some (some ⟨ti,1,[.int .i64 0]⟩))
  (hps:ps.length=1) (hfa:ma.flat=true) (hfb:mb.flat=true) (hit:IterC P g ty ti ch) (hlen:lst.length≤1000000) (st:List (List UInt8)→List UInt8→Store)
  (hst:∀ pre r,st pre r k1=some (some ⟨ty,1,[.str [ch]]⟩)∧st pre r k2=some (some ⟨ty,1,[.str r]⟩)∧st pre r k3=some (some ⟨ti,1,[.int .i64 0]⟩)) (hst2:∀ pre r r',upd (st pre r) k2 (some (some ⟨ty,1,[.str r']⟩))=st pre r')
  (h0:WeakK [k1,k2,k3] (e,s) (e,st [] lst))
  (hround:∀ (pre:List (List UInt8)) (x:List UInt8) (rest:List (List UInt8)) (r:List UInt8),pre ++ x :: rest=Lin.cut ch lst →
   AWM P N ma (fun ex e1 s1=>ex=.normal∧AWM P N mb (rfQK [k1,k2,k3] Q e (st (pre ++ [x]) r)) e1 s1) (updL e ps [.str x]) (st pre r))
  (hend:∀ r,Sat e (st (Lin.cut ch lst) r)→Q .normal e (st (Lin.cut ch lst) r)):AWM P N (.rf x ps ma mb) Q e s:=by
 intro c hc ro rm B w0 ok0 ok ρ a w hfl hR
 obtain ⟨rfl,hs0⟩:Plain ro ok0:=hfl.resolve_left (by simp [MC.flat])
 rcases cCode_inv hc with ⟨_,h'⟩ | ⟨_,_,_,_,_,_,h',_⟩ | ⟨_,_,_,_,_,h',_⟩ | ⟨_,_,_,_,_,_,h',_⟩ | ⟨_,_,_,_,h',_⟩ | ⟨_,_,_,h',_⟩ | ⟨_,_,h'⟩ | ⟨_,h'⟩ | ⟨g',ps',cx,cy,_,_,rfl,h',h1,h2,hpsN⟩ <;> first | (cases h';done) | skip
 cases h'
 have hv:=hR.ev g'
 rw [hx] at hv
 generalize hg:a.eval g'=av at hv
 cases hv with
 | fn _ _ vs hl hvv =>
 obtain ⟨⟨hk1,hk2,hk3⟩,hst0⟩:(s k1=some (some ⟨ty,1,[.str [ch]]⟩)∧s k2=some (some ⟨ty,1,[.str lst]⟩)∧s k3=some (some ⟨ti,1,[.int .i64 0]⟩))∧True:=⟨hk,trivial⟩
 obtain ⟨ok1,ρ1,hρ1,hsub,hR1⟩:=h0.2 N B w0 ok0 ok ρ a w hs0 hR
 obtain ⟨b1,hb1r,hv1⟩:=ptr_at hk1 (hvv 0 _ rfl)
 obtain ⟨b2,hb2r,hv2⟩:=ptr_at hk2 (hvv 1 _ rfl)
 obtain ⟨b3,hb3r,hv3⟩:=ptr_at hk3 (hvv 2 _ rfl)
 have hvs:vs=#[.pointer (some ⟨b1,0,none⟩),.pointer (some ⟨b2,0,none⟩),.pointer (some ⟨b3,0,none⟩)]:=args_3 (by simpa using hl.symm) hv1 hv2 hv3
 subst hvs
 refine wpIn_rangeFunc ?_
 intro fn hfn
 obtain ⟨rec,hrec⟩:∃ rec:LoopState→Option Code→Loop,rec=fun st pe=>{ state:=st,pending:=pe,fn,tmps:=a.tmps,params:=ps',assign:=cx,body:=cy,defers:=w.heap.size }:=⟨_,rfl⟩
 obtain ⟨W1,hW1⟩:∃ W1,(w.alloc (.deferred (some []))).alloc (.loop (rec .ready none))=W1:=⟨_,rfl⟩
 obtain ⟨L,hLdef⟩:∃ L,L=w.heap.size+1:=⟨_,rfl⟩
 have hL1:W1.heap[L]?=some (.loop (rec .ready none)):=by
  rw [← hW1,hLdef];have:=World.alloc_heap_new (w.alloc (.deferred (some []))) (.loop (rec .ready none));rwa [World.size_alloc] at this
 have hK1:W1.heap[w.heap.size]?=some (.deferred (some [])):=by
  rw [← hW1];exact (Below.heap_alloc _ _ _ (by simp)).trans (World.alloc_heap_new w _)
 have hb1:Below w.heap.size w W1:=by
  rw [← hW1];exact (((Below.refl _ w).alloc (Nat.le_refl _) _).alloc (by simp) _)
 have hsz1:W1.heap.size=w.heap.size+2:=by rw [← hW1];simp
 obtain ⟨am,ham⟩:∃ am:Act,am={ a with defers:=[{ target:=.collected w.heap.size,args:=#[] }] ++ a.defers }:=⟨_,rfl⟩
 have hBw:=hR.base
 have hRW:=hR1.grow hb1
 have hRm:Rel N B w0 ok0 (fun b=>ok1 b∨b=w.heap.size) ρ1 e (st [] lst) am W1:=by
  have:=hRW.moreOk (fun b=>b=w.heap.size) (fun b hb=>⟨by omega,.inl (by omega)⟩) (fun k K b hk hb hY=>by
   have:=(hR1.bound hk hb).1;omega)
  refine this.act (by rw [ham]) ?_
  obtain ⟨Ds,d1,d2,d3⟩:=this.defers
  obtain ⟨Ds',d1',d2',d3'⟩:=hR1.defers
  refine ⟨w.heap.size :: Ds',List.nodup_cons.2 ⟨fun h=>?_,d1'⟩,by rw [ham,d2'];rfl,fun D hD=>?_⟩
  ·have:=(Array.getElem?_eq_some_iff.1 (d3' _ h).2.2).1;omega
  ·rcases List.mem_cons.1 hD with rfl | hD
   ·exact ⟨hBw,.inr rfl,hK1⟩
   ·obtain ⟨g1,g2,g3⟩:=d3' D hD
    exact ⟨g1,.inl g2,(hb1.block D (Array.getElem?_eq_some_iff.1 g3).1).trans g3⟩
 have hBL:B≤L:=by omega
 obtain ⟨Qc,hQc⟩:∃ Qc:Exit→Act→World→Prop,Qc=fun x a' w'=>∃ e' s' ok' ρ',Rel N B w0 ok0 ok' ρ' e' s' a' w'∧Q x e' s':=⟨_,rfl⟩
 obtain ⟨J,hJ⟩:∃ J:List (List UInt8)→List UInt8→World→Prop,J=fun pre r W=>∃ ok' ρ',Rel N B w0 ok0 ok' ρ' e (st pre r) am W∧W.heap[L]?=some (.loop (rec .ready none))∧¬ ok' L∧(∀ b,ok b→ok' b)∧ρ' k1=some b1∧ρ' k2=some b2∧ρ' k3=some b3:=⟨_,rfl⟩
 obtain ⟨Jx,hJx⟩:∃ Jx:World→Prop,Jx=fun W=>∃ c s2 ok' ρ',Rel N B w0 ok0 ok' ρ' e s2 am W∧W.heap[L]?=some (.loop (rec .done (some c)))∧¬ ok' L∧((c=.ret∧Q .ret e s2)∨∃ id,c=.exit id∧Q (.exit id) e s2):=⟨_,rfl⟩
 refine ⟨L,[{ target:=.collected w.heap.size,args:=#[] }],W1,{ target:=.fn (.func g) #[.pointer (some ⟨b1,0,none⟩),.pointer (some ⟨b2,0,none⟩),.pointer (some ⟨b3,0,none⟩)],args:=#[.func (.yield L) #[] #[]] },W1,g,#[.func (.yield L) #[] #[]] ++ #[.pointer (some ⟨b1,0,none⟩),.pointer (some ⟨b2,0,none⟩),.pointer (some ⟨b3,0,none⟩)],W1,?_,?_,fun _ _=>trivial,?_,?_,?_⟩
 ·rw [← hW1,hrec,hLdef];exact run_enterLoop_outer _ _ _ _ _
 ·simp only [resolve,hg]
  simp [go_sem]
 ·simp only [invoke,go_sem]
  exact hit.1 _ _
 ·intro h;cases h
 have hnoL:¬ (ok1 L∨L=w.heap.size):=by
  rintro (h | h)
  ·have:=(hR1.oklt L h).1;omega
  ·omega
 have hlv:∀ {pre:List (List UInt8)} {r:List UInt8} {ok':Nat→Prop} {ρ':Nat→Option Nat} {W:World},Rel N B w0 ok0 ok' ρ' e (st pre r) am W→ρ' k1=some b1→ρ' k2=some b2→ρ' k3=some b3 →
   W.cell? ⟨b1,0,none⟩=some (.string ⟨#[ch]⟩)∧W.cell? ⟨b2,0,none⟩=some (.string ⟨r.toArray⟩)∧W.frozen? ⟨b2,0,none⟩=false∧W.cell? ⟨b3,0,none⟩=some (.int .i64 0):=by
  intro pre r ok' ρ' W hr r1 r2 r3
  obtain ⟨s1,s2,s3⟩:=hst pre r
  obtain ⟨c1,f1⟩:=cell_at hr s1 r1
  obtain ⟨c2,f2⟩:=cell_at hr s2 r2
  obtain ⟨c3,f3⟩:=cell_at hr s3 r3
  obtain ⟨v1,q1,p1⟩:=c1
  obtain ⟨v2,q2,p2⟩:=c2
  obtain ⟨v3,q3,p3⟩:=c3
  rw [str_val p1] at q1
  rw [str_val p2] at q2
  cases p3
  exact ⟨q1,q2,f2,q3⟩
 refine calls_fr (Calls.mono (hit.2 L lst hlen J Jx b1 b2 b3 ?_ ?_ ?_ W1 ?_) ?_)
 ·intro pre r W h
  rw [hJ] at h
  obtain ⟨ok',ρ',g1,g2,g3,g4,r1,r2,r3⟩:=h
  exact hlv g1 r1 r2 r3
 ·intro pre r W r' h
  rw [hJ] at h ⊢
  obtain ⟨ok',ρ',g1,g2,g3,g4,r1,r2,r3⟩:=h
  have hb2:=g1.bound (hst pre r).2.1 r2
  have hne:L ≠ b2:=fun h=>by
   obtain ⟨_,_,_,cur,hcur,_⟩:=hb2
   rw [← h,g2] at hcur;cases hcur
  have:=set_at g1 (hst pre r).2.1 r2 (.string ⟨r'.toArray⟩) (x':=.str r') rfl rfl (.str _ _ (by simp))
  rw [hst2] at this
  exact ⟨ok',ρ',this,(Below.heap_setCell _ _ _ _ hne).trans g2,g3,g4,r1,r2,r3⟩
 ·-- one round
  intro pre x rest r W hsplit hJp
  rw [hJ] at hJp
  obtain ⟨ok',ρ',g1,g2,g3,g4,r1,r2,r3⟩:=hJp
  have hy:=run_yield (P:=P) (args:=#[.string ⟨x.toArray⟩]) g2 (by rw [hrec];simpa using hps.symm)
  rw [hrec] at hy
  have hfold:=foldl_tmps (N:=N) (w:=W) (ok:=ok') (ρ:=ρ') (s:=st pre r) ps'.toList [.str x] [.string ⟨x.toArray⟩] e a.tmps hpsN hps rfl hR.size
   (fun n=>by have:=g1.tmps n;rw [ham] at this;exact this)
   (fun i v hv=>by
    cases i with
    | zero=>simp at hv;subst hv;exact .str _ _ (by simp)
    | succ i=>simp at hv)
  have hfold':(ps'.zip #[Value.string ⟨x.toArray⟩]).foldl (fun tmps (t,a)=>tmps.setIfInBounds t a) a.tmps=(ps'.toList.zip [Value.string ⟨x.toArray⟩]).foldl (fun t (p:Nat × Value)=>t.setIfInBounds p.1 p.2) a.tmps:=by
   rw [← Array.toList_zip,Array.foldl_toList]
  rw [← hfold'] at hfold
  have hT:Two N B w0 ok0 L (rec .ready none) ok' ρ' (st pre r) e am (updL e ps'.toList [.str x]) { tmps:=(ps'.zip #[Value.string ⟨x.toArray⟩]).foldl (fun tmps (t,a)=>tmps.setIfInBounds t a) a.tmps,defers:=[] } W :=
   ⟨g1,g1.frame hfold.1 hfold.2 rfl,g2,g3⟩
  refine ⟨fn,_,cx,cy,hy,fun rm'=>roundIn_of_wpIn (F:=Fr none) hfn ?_⟩
  refine wpIn_mono (hT.phaseG hfa h1 (hround pre x rest r hsplit) L rm') fun ex a1 w1 ⟨e1,s1,ok3,ρ3,hT1,hs1,hh1,hz1,hgo1,hex,hbody⟩=>?_
  subst hex
  refine ⟨_,run_beginRound hT1.hl (by rw [hrec]),?_⟩
  have hT2:=hT1.record hBL { rec .ready none with state:=.busy }
  refine wpIn_mono (hT2.phaseG hfb h2 hbody L rm') fun ex a2 w2 ⟨e2,s2,ok4,ρ4,hT3,hs3,hh3,hz3,hgo2,hq⟩=>?_
  have hend:∀ jump:Option Code,(Instr.endRound L jump).run P w2=.ok (.bool jump.isNone) (w2.putObj L (.loop (rec (if jump.isNone then .ready else .done) jump))):=fun jump=>by
   have:=run_endRound (P:=P) jump hT3.hl
   rw [hrec] at this ⊢
   exact this
  have hrec':∀ jump,Two N B w0 ok0 L (rec (if jump.isNone then .ready else .done) jump) ok4 ρ4 s2 e am e2 a2 (w2.putObj L (.loop (rec (if jump.isNone then .ready else .done) jump))):=fun jump=>hT3.record hBL _
  cases ex with
  | normal =>
   refine ⟨_,_,hend none,true,rfl,.inl ⟨rfl,?_⟩⟩
   have hT4:=hrec' none
   obtain ⟨ok5,ρ5,kρ,k1',k2'⟩:=hq.2 N B w0 ok0 ok4 ρ4 am _ hs0 hT4.q
   have k3':=k2'.off hT4.hl (fun h=>hT4.no (hT4.q.okold L h))
   have hno5:¬ (ok5 L∧¬ L=L):=fun h=>h.2 rfl
   have hpl:∀ k ∈ [k1,k2,k3],∀ K,st pre r k=some (some K)→ρ5 k=ρ' k:=fun k hkm K hK=>by
    obtain ⟨K2,hK2⟩:=hq.1 k hkm
    rw [kρ k hkm]
    have hK2':s2 k=some (some K2):=hK2
    rcases hgo1.live k K hK with d | ⟨K1,d1,_,_,d2,_⟩
    ·have:=hgo2.dead k d
     rw [hK2'] at this;cases this
    ·rcases hgo2.live k K1 d1 with d | ⟨_,_,_,_,d3,_⟩
     ·rw [hK2'] at d;cases d
     ·rw [d3,d2]
   obtain ⟨s1',s2',s3'⟩:=hst pre r
   rw [hJ]
   exact ⟨_,ρ5,k3',hT4.hl,hno5,fun b hb=>⟨k1' b (hs3 b (hs1 b (g4 b hb))),fun h=>g3 (h ▸ g4 b hb)⟩,(hpl k1 (by simp) _ s1').trans r1,(hpl k2 (by simp) _ s2').trans r2,(hpl k3 (by simp) _ s3').trans r3⟩
  | ret =>
   refine ⟨_,_,hend (some .ret),false,rfl,.inr ⟨rfl,?_⟩⟩
   rw [hJx]
   have hT4:=hrec' (some .ret)
   exact ⟨.ret,s2,ok4,ρ4,hT4.q,hT4.hl,hT4.no,.inl ⟨rfl,hq⟩⟩
  | exit id =>
   refine ⟨_,_,hend (some (.exit id)),false,rfl,.inr ⟨rfl,?_⟩⟩
   rw [hJx]
   have hT4:=hrec' (some (.exit id))
   exact ⟨.exit id,s2,ok4,ρ4,hT4.q,hT4.hl,hT4.no,.inr ⟨id,rfl,hq⟩⟩
  | _=>exact hq.elim
 ·rw [hJ]
  exact ⟨_,ρ1,hRm,hL1,hnoL,fun b hb=>.inl (hsub b hb),(hρ1 k1 (by simp)).trans hb1r,(hρ1 k2 (by simp)).trans hb2r,(hρ1 k3 (by simp)).trans hb3r⟩
 ·-- behind the iterator
  rintro en w' ⟨⟨v,rfl⟩,h⟩
  rcases h with ⟨r,h⟩ | h
  ·rw [hJ] at h
   obtain ⟨ok',ρ',g1,g2,g3,g4,_⟩:=h
   refine ⟨none,_,by have:=run_endLoop (P:=P) g2 (by rw [hrec];simp);rw [hrec] at this;exact this,?_⟩
   rw [← ham]
   exact ⟨e,st (Lin.cut ch lst) r,ok',ρ',g1.record g2 g3 hBL _,hend r ⟨_,_,_,_,_,_,_,_,g1⟩⟩
  ·rw [hJx] at h
   obtain ⟨c,s2,ok',ρ',g1,g2,g3,g4⟩:=h
   refine ⟨some c,_,by have:=run_endLoop (P:=P) g2 (by rw [hrec];simp);rw [hrec] at this;exact this,?_⟩
   rw [← ham]
   rcases g4 with ⟨rfl,hq⟩ | ⟨id,rfl,hq⟩
   ·exact wpIn_ret ⟨e,s2,ok',ρ',g1.record g2 g3 hBL _,hq⟩
   ·exact wpIn_exit ⟨e,s2,ok',ρ',g1.record g2 g3 hBL _,hq⟩
end
end Go.Av

/- strings.SplitSeq at one byte: its closure keeps the iterator's contract. By an AI agent;nothing here is trusted. -/
namespace Go.Proofs.YtpaklfjlbocfcaaGreatDoor
open Go.Av
open Go.RowKit

theorem splitC (c:UInt8):IterC Tryz.prog 196 9 3 c:=by
 refine ⟨fun args w=>callFunc_enter Tryz.func196 (by kernel_rfl) rfl _,?_⟩
 intro l s hs J Jx b1 b2 b3 hcell hset hround W h0
 refine callsIn_wide.1 (split1 Fence.wide rfl trivial trivial l c s hs J Jx b1 b2 b3 hcell hset ?_ ?_ W h0)
 ·intro pre x rest r w hsp hJ
  obtain ⟨fn,tmps,assign,body,hy,hR⟩:=hround pre x rest r w hsp hJ
  refine ⟨fn,tmps,assign,body,hy,fun rm=>(hR rm).mono ?_⟩
  rintro en w' ⟨b,rfl,⟨rfl,h⟩ | ⟨rfl,h⟩⟩
  ·exact .inl ⟨rfl,h⟩
  ·exact .inr ⟨rfl,h⟩
 ·intro n r w
  exact callsIn_wide.2 (Any.strings_Index_one sj_n143 r c w)
end Go.Proofs.YtpaklfjlbocfcaaGreatDoor

/- Weakenings that keep where some keys lie;the rule for a range over SplitSeq in marked code. Printed by gensj5.py. By an AI agent;nothing here is trusted. -/
namespace Go.Av
section
variable {e:Env} {s:Store}
theorem weak_rnK {e':Env} {s':Store} (ks:List Nat) (g:FuncId) (n0:Nat) (he:e n0=.fn g (ks.map fun k=>.ptr k 0 0)) (he':e' n0=e n0) (f:Nat→Option Nat) (hks:∀ k ∈ ks,f k=some k) (hinj:∀ k1 k2 k,f k1=some k→f k2=some k→k1=k2)
  (hs:∀ k',s' k'=none∨∃ B',s' k'=some (some B')∧((∃ k B,f k'=some k∧s k=some (some B)∧RnB s s' f B B')∨(f k'=none∧B'.es=[]∧0<B'.sz)))
  (hf:∀ k' k,f k'=some k→s' k' ≠ none) (hv:∀ n,n ≠ n0→Rn s s' f (e n) (e' n)):WeakK ks (e,s) (e',s'):=by
 refine ⟨fun k hk=>?_,?_⟩
 ·rcases hs k with h | ⟨B',h1,⟨k2,B,h2,h3,_⟩ | ⟨h2,_⟩⟩
  ·exact absurd h (hf k k (hks k hk))
  ·rw [hks k hk] at h2;cases h2;exact ⟨B,h3⟩
  ·rw [hks k hk] at h2;cases h2
 intro N B w0 ok0 ok ρ a w h0 hR
 obtain ⟨ρ',hρ'⟩:∃ ρ':Nat→Option Nat,ρ'=fun k'=>(f k').bind ρ:=⟨_,rfl⟩
 obtain ⟨ok',hok'⟩:∃ ok':Nat→Prop,ok'=fun b=>ok b∨∃ k K,s k=some (some K)∧ρ k=some b∧∀ k',f k' ≠ some k:=⟨_,rfl⟩
 have hsub:∀ b,ok b→ok' b:=fun b hb=>by rw [hok'];exact .inl hb
 have hcarry:∀ {k' k:Nat},f k'=some k→∃ K K',s k=some (some K)∧s' k'=some (some K')∧RnB s s' f K K'∧ρ' k'=ρ k:=by
  intro k' k hk
  rcases hs k' with h | ⟨K',h1,⟨k2,K,h2,h3,h4⟩ | ⟨h2,_,_⟩⟩
  ·exact absurd h (hf k' k hk)
  ·rw [hk] at h2;cases h2
   exact ⟨K,K',h3,h1,h4,by rw [hρ'];simp [hk]⟩
  ·rw [hk] at h2;cases h2
 have hval:∀ {x:AV} {v:Value},VR w.heap ok ρ s x v→∀ x',Rn s s' f x x'→VR w.heap ok' ρ' s' x' v:=by
  intro x v hx
  have himm:∀ {x:AV} {v:Value},VR w.heap ok ρ s x v→imm x=true→VR w.heap ok' ρ' s' x v:=fun hx hi=>hx.imm hsub (fun _ _=>rfl) hi
  induction hx with
  | agg cs vs hl hvv ih =>
   intro x' hr
   cases hr with
   | undef=>exact .undef _
   | imm _ hi=>exact himm (.agg cs vs hl hvv) hi
   | agg _ cs' hl' h =>
    refine .agg cs' vs (by omega) fun i c' hc'=>?_
    have hlt:i<cs.length:=by have:=(List.getElem?_eq_some_iff.1 hc').1;omega
    exact ih i cs[i] (List.getElem?_eq_getElem hlt) c' (h i _ _ (List.getElem?_eq_getElem hlt) hc')
  | tup cs vs hl hvv ih =>
   intro x' hr
   cases hr with
   | undef=>exact .undef _
   | imm _ hi=>exact himm (.tup cs vs hl hvv) hi
   | tup _ cs' hl' h =>
    refine .tup cs' vs (by omega) fun i c' hc'=>?_
    have hlt:i<cs.length:=by have:=(List.getElem?_eq_some_iff.1 hc').1;omega
    exact ih i cs[i] (List.getElem?_eq_getElem hlt) c' (h i _ _ (List.getElem?_eq_getElem hlt) hc')
  | nils A =>
   intro x' hr
   cases hr with
   | undef=>exact .undef _
   | imm _ hi=>exact .nils _
   | virt k' K' h hs' =>
    exact .bufn k' _ K' hs' (by rw [hρ'];simp [h])
   | nil0=>exact .sl0 _ _
  | bufd k len A l c hd =>
   intro x' hr
   cases hr with
   | undef=>exact .undef _
   | imm _ hi=>cases hi
   | buf _ k' _ h=>obtain ⟨K,K',h1,_⟩:=hcarry h;rw [hd] at h1;cases h1
   | fz _ _ K hk=>rw [hd] at hk;cases hk
  | bufn k A K hσ hr0 =>
   intro x' hr
   cases hr with
   | undef=>exact .undef _
   | imm _ hi=>cases hi
   | buf _ k' _ h =>
    obtain ⟨K1,K',h1,h2,h3,h4⟩:=hcarry h
    exact .bufn k' _ K' h2 (h4.trans hr0)
   | fz _ _ K hk hl hg hff=>simp;exact .sl0 _ _
  | buf k len K b cap cur hσ hr0 hb hlen hcap hcur =>
   intro x' hr
   cases hr with
   | undef=>exact .undef _
   | imm _ hi=>cases hi
   | buf _ k' _ h =>
    obtain ⟨K1,K',h1,h2,h3,h4⟩:=hcarry h
    rw [hσ] at h1;cases h1
    exact .buf k' len K' b cap cur h2 (h4.trans hr0) (by rw [h3.1];exact hb) hlen hcap (by rw [h3.2.1];exact hcur)
   | fz _ _ K1 hk hl hg hff =>
    rw [hσ] at hk;cases hk
    obtain ⟨hlt,_,_,cur',hcur',hH⟩:=hR.bound hσ hr0
    rw [hb] at hcur';cases hcur'
    have hokb:ok' b:=by rw [hok'];exact .inr ⟨k,K,hσ,hr0,hff⟩
    have hlt2:(K.es.take len).length=len:=by simp;omega
    have hget:∀ (i:Nat) (x:AV),(K.es.take len)[i]?=some x→K.es[i]?=some x:=fun i x hx=>by
     rw [List.getElem?_take] at hx;split at hx
     ·exact hx
     ·cases hx
    suffices hsl:VR w.heap ok' ρ' s' (.sl (K.es.take len)) (.slice (some ⟨b,0,none⟩) (K.es.take len).length cap) by rw [hlt2] at hsl;exact hsl
    refine .sl (K.es.take len) b 0 K.sz cap cur K.ty (0,0) (fun i o=>cur.getD (i * K.sz+o) undef) hokb (by rw [hlt2];exact hlen) hb (fun i x hx=>?_) (fun i x o c hx hc=>?_) (fun i x o c hx hc=>?_)
    ·have hx':=hget i x hx
     obtain ⟨g1,g2⟩:=good_imm (hg x (List.mem_of_getElem? hx'))
     exact ⟨(hH i x hx').1,g2,g1⟩
    ·obtain ⟨cv,p,q⟩:=(hH i x (hget i x hx)).2.2 o c hc
     rw [Nat.zero_add,p]
     simp [Array.getD_eq_getD_getElem?,p]
    ·obtain ⟨cv,p,q⟩:=(hH i x (hget i x hx)).2.2 o c hc
     have:cur.getD (i * K.sz+o) undef=cv:=by simp [Array.getD_eq_getD_getElem?,p]
     rw [this]
     exact himm q (imm_cells (good_imm (hg x (List.mem_of_getElem? (hget i x hx)))).1 c (List.mem_of_getElem? hc))
  | ptrd k i o A hd =>
   intro x' hr
   cases hr with
   | undef=>exact .undef _
   | imm _ hi=>cases hi
   | ptr _ k' _ _ h=>obtain ⟨K,K',h1,_⟩:=hcarry h;rw [hd] at h1;cases h1
  | ptr k i o K b hσ hr0 =>
   intro x' hr
   cases hr with
   | undef=>exact .undef _
   | imm _ hi=>cases hi
   | ptr _ k' _ _ h =>
    obtain ⟨K1,K',h1,h2,h3,h4⟩:=hcarry h
    rw [hσ] at h1;cases h1
    rw [← h3.2.1]
    exact .ptr k' i o K' b h2 (h4.trans hr0)
  | undef v=>intro x' hr;cases hr <;> exact .undef _
  | int k n=>intro x' hr;cases hr with
   | undef=>exact .undef _
   | imm _ hi=>exact .int _ _
  | bool b=>intro x' hr;cases hr with
   | undef=>exact .undef _
   | imm _ hi=>exact .bool _
  | str l b hb=>intro x' hr;cases hr with
   | undef=>exact .undef _
   | imm _ hi=>exact .str _ _ hb
  | nilp=>intro x' hr;cases hr with
   | undef=>exact .undef _
   | imm _ hi=>exact .nilp
  | nilf=>intro x' hr;cases hr with
   | undef=>exact .undef _
   | imm _ hi=>exact .nilf
  | ifc t v=>intro x' hr;cases hr with
   | undef=>exact .undef _
   | imm _ hi=>exact .ifc _ _
  | nili=>intro x' hr;cases hr with
   | undef=>exact .undef _
   | imm _ hi=>exact .nili
  | sl0 A cap=>intro x' hr;cases hr with
   | undef=>exact .undef _
   | imm _ hi=>exact .sl0 _ _
  | sl es b off sz cap cur ty fr vals ho hcap hb hs hc hvv _=>intro x' hr;cases hr with
   | undef=>exact .undef _
   | imm _ hi=>exact himm (.sl es b off sz cap cur ty fr vals ho hcap hb hs hc hvv) hi
  | eptr x o b off cur ty fr vals ho hb hs hc hvv _=>intro x' hr;cases hr with
   | undef=>exact .undef _
   | imm _ hi=>exact himm (.eptr x o b off cur ty fr vals ho hb hs hc hvv) hi
  | fn f caps vs hl hvv _=>intro x' hr;cases hr with
   | undef=>exact .undef _
   | imm _ hi=>exact himm (.fn f caps vs hl hvv) hi
  | yld l=>intro x' hr;cases hr with
   | undef=>exact .undef _
   | imm _ hi=>exact .yld l
 refine ⟨ok',ρ',fun k hk=>by rw [hρ'];simp [hks k hk],hsub,?_⟩
 constructor
 ·exact hR.defers.mono hsub (fun _ _=>rfl)
 ·exact hR.size
 ·exact hR.below
 ·exact hR.base
 ·intro n
  by_cases hn:n=n0
  ·subst hn
   have h1:=hR.tmps n
   simp only at h1 ⊢
   rw [he']
   rw [he] at h1 ⊢
   generalize a.tmps.getD n undef=v at h1
   cases h1 with
   | fn _ _ vs hl hvv =>
    refine .fn _ _ vs hl fun i c hc=>?_
    obtain ⟨k,hk,rfl⟩:=List.mem_map.1 (List.mem_of_getElem? hc)
    exact hval (hvv i _ hc) _ (.ptr k k 0 0 (hks k hk))
  ·exact hval (hR.tmps n) _ (hv n hn)
 ·intro b hb
  rw [hok'] at hb
  rcases hb with hb | ⟨k,K,h1,h2,_⟩
  ·exact hR.oklt b hb
  ·have:=hR.bound h1 h2;exact ⟨this.1,.inl this.2.1⟩
 ·exact fun b hb=>hsub b (hR.okold b hb)
 ·intro k' K' hk'
  rcases hs k' with h | ⟨K2,h1,h2⟩
  ·simp only at hk';rw [h] at hk';cases hk'
  simp only at hk'
  rw [h1] at hk';cases hk'
  rcases h2 with ⟨k,K,g1,g2,g3⟩ | ⟨g1,g2,g3⟩
  ·obtain ⟨l1,l2⟩:=hR.live k K g2
   refine ⟨by rw [g3.2.1];exact l1,?_⟩
   rcases l2 with ⟨l2,l3⟩ | ⟨b,cur,l2,l3,l4,l5,l6⟩
   ·exact .inl ⟨by rw [hρ'];simp [g1,l2],List.eq_nil_of_length_eq_zero (by rw [g3.2.2.1,l3];rfl)⟩
   ·refine .inr ⟨b,cur,by rw [hρ'];simp [g1,l2],l3,fun hb=>?_,by rw [g3.1];exact l5,fun i x' hx'=>?_⟩
    ·rw [hok'] at hb
     rcases hb with hb | ⟨k2,K2,q1,q2,q3⟩
     ·exact l4 hb
     ·have:=hR.inj k k2 K K2 b g2 q1 l2 q2
      subst this
      exact q3 k' g1
    ·have hlt:i<K.es.length:=by have:=(List.getElem?_eq_some_iff.1 hx').1;have:=g3.2.2.1;omega
     have hx:=List.getElem?_eq_getElem hlt
     obtain ⟨r1,r2,r3⟩:=g3.2.2.2 i _ x' hx hx'
     obtain ⟨p1,p2,p3⟩:=l6 i _ hx
     refine ⟨by rw [r1,p1,g3.2.1],r2,fun o c' hc'=>?_⟩
     have hlo:o<(cellsOf K.es[i]).length:=by have:=(List.getElem?_eq_some_iff.1 hc').1;omega
     have hco:=List.getElem?_eq_getElem hlo
     obtain ⟨cv,q1,q2⟩:=p3 o _ hco
     exact ⟨cv,by rw [g3.2.1];exact q1,hval q2 _ (r3 o _ c' hco hc')⟩
  ·exact ⟨g3,.inl ⟨by rw [hρ'];simp [g1],g2⟩⟩
 ·intro k1 k2 K1 K2 b h1 h2 h3 h4
  rw [hρ'] at h3 h4
  simp only [Option.bind_eq_some_iff] at h3 h4
  obtain ⟨j1,a1,a2⟩:=h3
  obtain ⟨j2,b1,b2⟩:=h4
  obtain ⟨L1,_,c1,_⟩:=hcarry a1
  obtain ⟨L2,_,c2,_⟩:=hcarry b1
  have:=hR.inj j1 j2 L1 L2 b c1 c2 a2 b2
  subst this
  exact hinj k1 k2 j1 a1 b1
 ·exact hR.kept
 ·rw [h0];exact Goes.empty _ _ _ _ _
 ·exact hR.gok
theorem weak_toK (ks:List Nat) (g:FuncId) (n0:Nat) (he:e n0=.fn g (ks.map fun k=>.ptr k 0 0)) (l:List (Nat × AV)) (m:List (Nat × Option Nat × Blk)) (hks:∀ k ∈ ks,keyOf m k=some k) (hd:(m.map (·.1)).Nodup) (hd':(m.filterMap (·.2.1)).Nodup)
  (hm:∀ p ∈ m,match p.2.1 with
   | some k=>∃ B,s k=some (some B)∧RnB s (stOf (m.map fun p=>(p.1,p.2.2))) (keyOf m) B p.2.2
   | none=>p.2.2.es=[]∧0<p.2.2.sz)
  (hl:∀ p ∈ l,Rn s (stOf (m.map fun p=>(p.1,p.2.2))) (keyOf m) (e p.1) p.2):WeakK ks (e,s) (upd (envOf l) n0 (e n0),stOf (m.map fun p=>(p.1,p.2.2))):=by

 have hst:∀ (m:List (Nat × Option Nat × Blk)),(m.map (·.1)).Nodup→∀ k',(stOf (m.map fun p=>(p.1,p.2.2)) k'=none∧keyOf m k'=none)∨∃ p ∈ m,p.1=k'∧stOf (m.map fun p=>(p.1,p.2.2)) k'=some (some p.2.2)∧keyOf m k'=p.2.1:=by
  intro m hn k'
  induction m with
  | nil=>exact .inl ⟨rfl,rfl⟩
  | cons p m ih =>
   obtain ⟨k,o,K⟩:=p
   simp only [List.map_cons,List.nodup_cons] at hn
   simp only [List.map_cons,stOf,keyOf]
   by_cases hk:k'=k
   ·subst hk;exact .inr ⟨_,List.mem_cons_self,rfl,upd_same _ _ _,by simp⟩
   ·rw [upd_other _ _ _ _ hk,if_neg hk]
    rcases ih hn.2 with h | ⟨p,h1,h2⟩
    ·exact .inl h
    ·exact .inr ⟨p,List.mem_cons_of_mem _ h1,h2⟩
 refine weak_rnK ks g n0 he (upd_same _ _ _) (keyOf m) hks ?_ ?_ ?_ ?_
 ·intro k1 k2 k h1 h2
  have key:∀ (m:List (Nat × Option Nat × Blk)),(m.filterMap (·.2.1)).Nodup→keyOf m k1=some k→keyOf m k2=some k→k1=k2:=by
   intro m hn h1 h2
   have hmem:∀ (m:List (Nat × Option Nat × Blk)) j,keyOf m j=some k→k ∈ m.filterMap (·.2.1):=by
    intro m j hj
    induction m with
    | nil=>cases hj
    | cons p m ih =>
     obtain ⟨k',o,K⟩:=p
     simp only [keyOf] at hj
     split at hj
     ·subst hj;simp
     ·have:=ih hj
      cases o <;> simp [this]
   induction m with
   | nil=>cases h1
   | cons p m ih =>
    obtain ⟨k',o,K⟩:=p
    simp only [keyOf] at h1 h2
    by_cases e1:k1=k' <;> by_cases e2:k2=k'
    ·rw [e1,e2]
    ·rw [if_pos e1] at h1;rw [if_neg e2] at h2
     subst h1
     simp only [List.filterMap_cons] at hn
     exact absurd (hmem m k2 h2) (List.nodup_cons.1 hn).1
    ·rw [if_neg e1] at h1;rw [if_pos e2] at h2
     subst h2
     simp only [List.filterMap_cons] at hn
     exact absurd (hmem m k1 h1) (List.nodup_cons.1 hn).1
    ·rw [if_neg e1] at h1;rw [if_neg e2] at h2
     refine ih ?_ h1 h2
     cases o with
     | none=>simpa using hn
     | some q=>simp only [List.filterMap_cons] at hn;exact (List.nodup_cons.1 hn).2
  exact key m hd' h1 h2
 ·intro k'
  rcases hst m hd k' with ⟨h,_⟩ | ⟨p,h1,h2,h3,h4⟩
  ·exact .inl h
  ·refine .inr ⟨p.2.2,h3,?_⟩
   have:=hm p h1
   rw [h4]
   split at this
   ·rename_i k hk
    obtain ⟨K,g1,g2⟩:=this
    exact .inl ⟨k,K,hk,g1,g2⟩
   ·rename_i hk
    exact .inr ⟨hk,this⟩
 ·intro k' k hk
  rcases hst m hd k' with ⟨_,h⟩ | ⟨p,h1,h2,h3,h4⟩
  ·rw [h] at hk;cases hk
  ·rw [h3];simp
 ·intro n hn0
  rw [upd_other _ _ _ _ hn0]
  clear hm
  induction l with
  | nil=>exact .undef _
  | cons p l ih =>
   obtain ⟨k,v⟩:=p
   simp only [envOf]
   by_cases hn:n=k
   ·subst hn;rw [upd_same];exact hl (n,v) (by simp)
   ·rw [upd_other _ _ _ _ hn];exact ih fun p hp=>hl p (by simp [hp])
theorem weakXK {l:List (Nat × AV)} {L:List (Nat × Blk)} (ks:List Nat) (g:FuncId) (n0:Nat) (he:e n0=.fn g (ks.map fun k=>.ptr k 0 0)) (x:List (Nat × Option Nat)) (hks:∀ k ∈ ks,keyOf (kN x L) k=some k) (hd:((kN x L).map (·.1)).Nodup) (hd':((kN x L).filterMap (·.2.1)).Nodup)
  (h:allV (stOf L) (keyOf (kN x L)) e l∧allW s (stOf L) (keyOf (kN x L)) x L):WeakK ks (e,s) (upd (envOf l) n0 (.fn g (ks.map fun k=>.ptr k 0 0)),stOf L):=by
 have:=weak_toK (e:=e) (s:=s) ks g n0 he l (kN x L) hks hd hd' (by rw [kN_map];exact allW_all h.2) (by rw [kN_map];exact allV_all h.1)
 rw [kN_map,he] at this
 exact this
theorem WeakK.weak {ks:List Nat} {p q:Env × Store} (h:WeakK ks p q):Weak p q:=fun N B w0 ok0 ok ρ a w h0 hR=>by
 obtain ⟨ok',ρ',_,h1,h2⟩:=h.2 N B w0 ok0 ok ρ a w h0 hR
 exact ⟨ok',ρ',h1,h2⟩
end
section
variable {P:Program} {N:Nat} {Q:Exit→Env→Store→Prop} {e:Env} {s:Store}
end
end Go.Av

/- A range over SplitSeq whose rounds keep what is known of the pieces so far. By an AI agent;nothing here is trusted. -/
namespace Go.Av

def rfQI (ks:List Nat) (Q:Exit→Env→Store→Prop) (e:Env) (i:Prop) (s':Store):Exit→Env→Store→Prop:=fun ex _ s2=>match ex with
 | .normal=>i∧WeakK ks (e,s2) (e,s')
 | .ret=>Q .ret e s2
 | .exit id=>Q (.exit id) e s2
 | _=>False
theorem rfQI_n (ks:List Nat) (Q:Exit→Env→Store→Prop) (e:Env) (i:Prop) (s':Store) (e2:Env) (s2:Store):rfQI ks Q e i s' .normal e2 s2=(i∧WeakK ks (e,s2) (e,s')):=rfl
theorem rfQI_r (ks:List Nat) (Q:Exit→Env→Store→Prop) (e:Env) (i:Prop) (s':Store) (e2:Env) (s2:Store):rfQI ks Q e i s' .ret e2 s2=Q .ret e s2:=rfl
theorem rfQI_x (ks:List Nat) (Q:Exit→Env→Store→Prop) (e:Env) (i:Prop) (s':Store) (id:Nat) (e2:Env) (s2:Store):rfQI ks Q e i s' (.exit id) e2 s2=Q (.exit id) e s2:=rfl
def badU (s:Store) (k:Nat):Store:=upd s k (some (some ⟨0,0,[]⟩))
theorem not_satU {e:Env} {s:Store} {k:Nat}:¬ Sat e (badU s k):=by
 rintro ⟨N,B,w0,ok0,ok,ρ,a,w,hR⟩
 have:=(hR.live k ⟨0,0,[]⟩ (upd_same _ _ _)).1
 exact absurd this (by decide)
theorem AWM_badU {P:Program} {N:Nat} {m:MC} {Q:Exit→Env→Store→Prop} {e e':Env} {s:Store} {k:Nat}:AWM P N m Q e' (badU s k):=by
 intro c hc ro rm B w0 ok0 ok ρ a w hfl hR
 exact absurd ⟨_,_,_,_,_,_,_,_,hR⟩ (not_satU (e:=e'))
theorem WeakK.refl {ks:List Nat} {p:Env × Store} (h:∀ k ∈ ks,∃ K,p.2 k=some (some K)):WeakK ks p p:=⟨h,fun _ _ _ _ ok ρ _ _ _ hR=>⟨ok,ρ,fun _ _=>rfl,fun _ h=>h,hR⟩⟩
section
variable {P:Program} {N:Nat} {Q:Exit→Env→Store→Prop} {e:Env} {s:Store}
theorem AWM.rfCI {x:MX} {ps:List Nat} {ma mb:MC} {g:FuncId} {ty ti:TypeId} {ch:UInt8} {lst:List UInt8} {k1 k2 k3:Nat} (k0:Nat) (hk0:k1 ≠ k0∧k2 ≠ k0∧k3 ≠ k0) (hx:x.ev e=.fn g [.ptr k1 0 0,.ptr k2 0 0,.ptr k3 0 0])
  (hps:ps.length=1) (hfa:ma.flat=true) (hfb:mb.flat=true) (hit:IterC P g ty ti ch) (hlen:lst.length≤1000000) (I:List (List UInt8)→Prop) (hI:I []) (st:List (List UInt8)→List UInt8→Store)
  (hst:∀ pre r,st pre r k1=some (some ⟨ty,1,[.str [ch]]⟩)∧st pre r k2=some (some ⟨ty,1,[.str r]⟩)∧st pre r k3=some (some ⟨ti,1,[.int .i64 0]⟩)) (hst2:∀ pre r r',upd (st pre r) k2 (some (some ⟨ty,1,[.str r']⟩))=st pre r')
  (h0:s=st [] lst)
  (hround:∀ (pre:List (List UInt8)) (x:List UInt8) (rest:List (List UInt8)) (r:List UInt8),pre ++ x :: rest=Lin.cut ch lst→I pre →
   AWM P N ma (fun ex e1 s1=>ex=.normal∧AWM P N mb (rfQI [k1,k2,k3] Q e (I (pre ++ [x])) (st (pre ++ [x]) r)) e1 s1) (updL e ps [.str x]) (st pre r))
  (hend:∀ r,I (Lin.cut ch lst)→Q .normal e (st (Lin.cut ch lst) r)):AWM P N (.rf x ps ma mb) Q e s:=by
 classical
 subst h0
 refine AWM.rfC hx (hst [] lst) hps hfa hfb hit hlen (fun pre r=>if I pre then st pre r else badU (st pre r) k0) (fun pre r=>?_) (fun pre r r'=>?_) ?_ (fun pre x rest r hsp=>?_) (fun r hsat=>?_)
 ·obtain ⟨a1,a2,a3⟩:=hst pre r
  split
  ·exact ⟨a1,a2,a3⟩
  ·unfold badU
   rw [upd_other _ _ _ _ hk0.1,upd_other _ _ _ _ hk0.2.1,upd_other _ _ _ _ hk0.2.2]
   exact ⟨a1,a2,a3⟩
 ·split
  ·exact hst2 pre r r'
  ·unfold badU
   rw [← hst2 pre r r']
   funext k
   simp only [upd_app]
   by_cases h1:k=k2
   ·subst h1;rw [if_pos rfl,if_neg hk0.2.1,if_pos rfl]
   ·rw [if_neg h1]
    by_cases h2:k=k0
    ·rw [if_pos h2,if_pos h2]
    ·rw [if_neg h2,if_neg h2,if_neg h1]
 ·simp only [hI,if_true]
  refine WeakK.refl fun k hk=>?_
  obtain ⟨a1,a2,a3⟩:=hst [] lst
  simp only [List.mem_cons,List.not_mem_nil,or_false] at hk
  rcases hk with rfl | rfl | rfl
  ·exact ⟨_,a1⟩
  ·exact ⟨_,a2⟩
  ·exact ⟨_,a3⟩
 ·by_cases hp:I pre
  ·simp only [hp,if_true]
   refine (hround pre x rest r hsp hp).mono fun ex e1 s1 ⟨h1,h2⟩=>⟨h1,h2.mono fun ex e2 s2 h=>?_⟩
   cases ex with
   | normal =>
    obtain ⟨g1,g2⟩:=h
    show WeakK _ _ _
    simp only [g1,if_true]
    exact g2
   | ret=>exact h
   | exit id=>exact h
   | _=>exact h.elim
  ·simp only [hp,if_false]
   exact AWM_badU (e:=e)
 ·by_cases hp:I (Lin.cut ch lst)
  ·simp only [hp,if_true]
   exact hend r hp
  ·simp only [hp,if_false] at hsat
   exact absurd hsat not_satU
theorem W_rfCI {x:MX} {ps:List Nat} {ma mb:MC} {g:FuncId} {ty ti:TypeId} {ch:UInt8} {lst:List UInt8} {k1 k2 k3:Nat} {tt} (k0:Nat) (hk0:k1 ≠ k0∧k2 ≠ k0∧k3 ≠ k0) (hx:x.ev e=.fn g [.ptr k1 0 0,.ptr k2 0 0,.ptr k3 0 0])
  (hps:ps.length=1) (hfa:ma.flat=true) (hfb:mb.flat=true) (hit:IterC P g ty ti ch) (hlen:lst.length≤1000000) (I:List (List UInt8)→Prop) (hI:I []) (st:List (List UInt8)→List UInt8→Store)
  (hst:∀ pre r,st pre r k1=some (some ⟨ty,1,[.str [ch]]⟩)∧st pre r k2=some (some ⟨ty,1,[.str r]⟩)∧st pre r k3=some (some ⟨ti,1,[.int .i64 0]⟩)) (hst2:∀ pre r r',upd (st pre r) k2 (some (some ⟨ty,1,[.str r']⟩))=st pre r')
  (h0:s=st [] lst)
  (hround:∀ (pre:List (List UInt8)) (x:List UInt8) (rest:List (List UInt8)) (r:List UInt8),pre ++ x :: rest=Lin.cut ch lst→I pre →
   W P N ma (fun ex e1 s1=>ex=.normal∧W P N mb (rfQI [k1,k2,k3] Q e (I (pre ++ [x])) (st (pre ++ [x]) r)) e1 s1 .mk) (updL e ps [.str x]) (st pre r) .mk)
  (hend:∀ r,I (Lin.cut ch lst)→Q .normal e (st (Lin.cut ch lst) r)):W P N (.rf x ps ma mb) Q e s tt :=
 AWM.rfCI k0 hk0 hx hps hfa hfb hit hlen I hI st hst hst2 h0 (fun pre x rest r h h'=>(W_sound (hround pre x rest r h h')).mono fun ex e1 s1 ⟨h1,h2⟩=>⟨h1,W_sound h2⟩) hend
end
end Go.Av

/- Off the library's shelf: the laying of strings.TrimPrefix. Printed by lays.py. By an AI agent;nothing here is trusted. -/
namespace Go.Proofs.YtpaklfjlbocfcaaGreatDoor
def tpRen:Go.Shelf.Ren:=⟨fun x=>match x with | 101=>158 | 206=>221 | 208=>200 | n=>n,fun x=>match x with | 3=>3 | 4=>4 | 9=>9 | n=>n,fun x=>x⟩
set_option maxRecDepth 100000 in
theorem tp_f101:Tryz.prog.funcs[tpRen.f 101]?=some (Go.Proofs.Body.n101 tpRen):=by kernel_rfl
set_option maxRecDepth 100000 in
theorem tp_f206:Tryz.prog.funcs[tpRen.f 206]?=some (Go.Proofs.Body.n206 tpRen):=by kernel_rfl
set_option maxRecDepth 100000 in
theorem tp_f208:Tryz.prog.funcs[tpRen.f 208]?=some (Go.Proofs.Body.n208 tpRen):=by kernel_rfl
theorem tp_n101:Go.Proofs.Lays.n101 Tryz.prog tpRen :=
 {mixed:=by kernel_rfl,
  f101:=tp_f101,
  f206:=tp_f206,
  f208:=tp_f208,
  t3:=Tryz.underlying3,
  a3:=Tryz.isAgg3,
  z3:=Tryz.sizeOf3,
  v3:=Tryz.zeroValue3,
  t4:=Tryz.underlying4,
  a4:=Tryz.isAgg4,
  z4:=Tryz.sizeOf4,
  v4:=Tryz.zeroValue4,
  t9:=Tryz.underlying9,
  a9:=Tryz.isAgg9,
  z9:=Tryz.sizeOf9,
  v9:=Tryz.zeroValue9 }
end Go.Proofs.YtpaklfjlbocfcaaGreatDoor

/- Contracts off the shelf: strings.TrimPrefix. By an AI agent;nothing here is trusted. -/
namespace Go.Proofs.YtpaklfjlbocfcaaGreatDoor
open Go.Av
open Go.RowKit (Below)

theorem TrimPrefix_s (s p:List UInt8):Sound Tryz.prog 158 [.str s,.str p] (.str (Lib.trimPrefix s p)):=by
 intro w ok cargs hok hG hlen hargs
 rw [args_2 (by simpa using hlen) (vr_str (hargs 0 _ rfl)) (vr_str (hargs 1 _ rfl))]
 refine .inr ⟨callFunc_enter Tryz.func158 (by kernel_rfl) rfl _,?_⟩
 exact (Any.strings_TrimPrefix tp_n101 ⟨s.toArray⟩ ⟨p.toArray⟩ w).mono fun e w' ⟨he,hw⟩=>⟨_,he,hw ▸ Below.refl _ _,.str _ _ (by simp)⟩
end Go.Proofs.YtpaklfjlbocfcaaGreatDoor

/- Contracts: numbers of pulses as words,and back. By an AI agent;nothing here is trusted. -/
namespace Go.Proofs.YtpaklfjlbocfcaaGreatDoor
open Go.Av

theorem format_s (l:List Int) (hl:∀ n ∈ l,I64 n) (hn:l.length≤100000):Sound Tryz.prog 90 [.sl (ints l)] (.str (Lib.join (l.map Lib.itoa) [32])):=by
 refine sound_W f_pulse_format (Nat.le_of_ble_eq_true rfl) ?_
 have hmax:=maxLen_str
 have hJ:=Join_s (l.map Lib.itoa) [32] (by simpa using Nat.le_trans hn (by decide)) (by
  refine Nat.le_trans (join_le 32 20 _ fun w hw=>?_) (by simp;omega)
  obtain ⟨n,hn,rfl⟩:=List.mem_map.1 hw
  exact itoa_le (hl n hn))
 change Sound _ _ [.sl (strs (l.map Lib.itoa)),_] _ at hJ
 simp only [c_pulse_format,vZ,Int.reduceEq,Int.reduceNe,Int.reduceLT,Int.reduceLE,Nat.reduceEqDiff,Nat.reduceAdd,reduceIte,reduceCtorEq,Nat.reduceLT,Nat.reduceLeDiff,Nat.reduceShiftRight,Nat.reduceMod]
 refine W_loop (t:=.mk) (α:=PSigma fun i:Nat=>i≤l.length) (fun ⟨i,_⟩=>(envOf [(3,.buf 100 i),(6,.sl (ints l)),(7,.int .i64 l.length),(8,.int .i64 i)],stOf [(100,⟨9,1,strs ((l.take i).map Lib.itoa)⟩)])) (fun p=>l.length - p.1) ⟨0,Nat.zero_le _⟩ ?_ (fun ⟨i,hi⟩=>?_)
 ·refine weakX [(100,none)] (of_decide_eq_true rfl) (of_decide_eq_true rfl) ?_
  (simp only [vcW,vZ,Int.reduceEq,Int.reduceNe,Int.reduceLT,Int.reduceLE,Nat.reduceEqDiff,Nat.reduceAdd,reduceIte,reduceCtorEq,Nat.reduceLT,Nat.reduceLeDiff,Nat.reduceShiftRight,Nat.reduceMod])
  (repeat' first | exact trivial | (with_reducible first | exact RnB.fxB (ints_fxB _) | rfl | refine And.intro ?_ ?_) | (with_reducible (first | refine RnB.bb ?_ | refine RnB.nb ?_);simp only [vcW,vZ,Int.reduceEq,Int.reduceNe,Int.reduceLT,Int.reduceLE,Nat.reduceEqDiff,Nat.reduceAdd,reduceIte,reduceCtorEq,Nat.reduceLT,Nat.reduceLeDiff,Nat.reduceShiftRight,Nat.reduceMod]) | (with_reducible first | refine RnB.ii ?_ | refine RnB.app ?_) | (with_reducible refine RnB.fxB ?_;simp only [vcW,vZ,Int.reduceEq,Int.reduceNe,Int.reduceLT,Int.reduceLE,Nat.reduceEqDiff,Nat.reduceAdd,reduceIte,reduceCtorEq,Nat.reduceLT,Nat.reduceLeDiff,Nat.reduceShiftRight,Nat.reduceMod]) | omega)
  all_goals first | rfl | trace_state
 ·dsimp only at hi ⊢
  have hlen:(strs ((l.take i).map Lib.itoa)).length=i:=by rw [strs_length,List.length_map,List.length_take];omega
  by_cases h':i<l.length
  ·have hc1:(i:Int)<l.length:=by omega
   have hg:=ints_get l i h'
   have ht:strs ((l.take (i+1)).map Lib.itoa)=strs ((l.take i).map Lib.itoa) ++ [.str (Lib.itoa l[i])]:=by rw [List.take_succ_eq_append_getElem h',List.map_append,strs_append];rfl
   simp only [hc1,hg,vZ,Int.reduceEq,Int.reduceNe,Int.reduceLT,Int.reduceLE,Nat.reduceEqDiff,Nat.reduceAdd,reduceIte,reduceCtorEq,Nat.reduceLT,Nat.reduceLeDiff,Nat.reduceShiftRight,Nat.reduceMod]
   refine ⟨by omega,callS_of (Itoa_s _ (hl _ (List.getElem_mem h'))) ?_⟩
   simp only [hlen,vZ,Int.reduceEq,Int.reduceNe,Int.reduceLT,Int.reduceLE,Nat.reduceEqDiff,Nat.reduceAdd,reduceIte,reduceCtorEq,Nat.reduceLT,Nat.reduceLeDiff,Nat.reduceShiftRight,Nat.reduceMod]
   refine ⟨⟨by omega,by omega⟩,by unfold I64;omega,⟨i+1,h'⟩,by (try simp only);omega,?_⟩
   rw [ht]
   refine weakX [(100,some 16)] (of_decide_eq_true rfl) (of_decide_eq_true rfl) ?_
   (simp only [vcW,vZ,Int.reduceEq,Int.reduceNe,Int.reduceLT,Int.reduceLE,Nat.reduceEqDiff,Nat.reduceAdd,reduceIte,reduceCtorEq,Nat.reduceLT,Nat.reduceLeDiff,Nat.reduceShiftRight,Nat.reduceMod])
   (repeat' first | exact trivial | (with_reducible first | exact RnB.fxB (ints_fxB _) | rfl | refine And.intro ?_ ?_) | (with_reducible (first | refine RnB.bb ?_ | refine RnB.nb ?_);simp only [vcW,vZ,Int.reduceEq,Int.reduceNe,Int.reduceLT,Int.reduceLE,Nat.reduceEqDiff,Nat.reduceAdd,reduceIte,reduceCtorEq,Nat.reduceLT,Nat.reduceLeDiff,Nat.reduceShiftRight,Nat.reduceMod]) | (with_reducible first | refine RnB.ii ?_ | refine RnB.app ?_) | (with_reducible refine RnB.fxB ?_;simp only [vcW,vZ,Int.reduceEq,Int.reduceNe,Int.reduceLT,Int.reduceLE,Nat.reduceEqDiff,Nat.reduceAdd,reduceIte,reduceCtorEq,Nat.reduceLT,Nat.reduceLeDiff,Nat.reduceShiftRight,Nat.reduceMod]) | omega)
   all_goals first | rfl | exact RnB.fxB (by rw [List.all_append,strs_fxB];rfl) | trace_state
  ·have hil:i=l.length:=by omega
   subst hil
   have hc1:¬ (l.length:Int)<l.length:=by omega
   rw [List.take_length] at *
   simp only [hc1,vZ,Int.reduceEq,Int.reduceNe,Int.reduceLT,Int.reduceLE,Nat.reduceEqDiff,Nat.reduceAdd,reduceIte,reduceCtorEq,Nat.reduceLT,Nat.reduceLeDiff,Nat.reduceShiftRight,Nat.reduceMod]
   rw [borB_good _ _ _ _ _ hlen.symm (strs_fx _)]
   refine callS_of hJ ?_
   simp only [vZ,Int.reduceEq,Int.reduceNe,Int.reduceLT,Int.reduceLE,Nat.reduceEqDiff,Nat.reduceAdd,reduceIte,reduceCtorEq,Nat.reduceLT,Nat.reduceLeDiff,Nat.reduceShiftRight,Nat.reduceMod]
def ppN (s:List UInt8) (k:Nat) (neg:Bool):List Int × Int:=if 60000<s.length then ([],8) else match Lin.nums neg k (Lin.cut 32 s) with
 | some l=>(l,0)
 | none=>([],7)
def ppV (s:List UInt8) (k:Nat) (neg:Bool):AV:=.tup [.sl (ints (ppN s k neg).1),.int .i64 (ppN s k neg).2]
def ppL (k:Nat) (neg:Bool) (pre:List (List UInt8)):List Int:=(Lin.nums neg k pre).getD []
def ppS (k:Nat) (neg:Bool) (pre:List (List UInt8)) (r:List UInt8):Store:=stOf [(4,⟨3,1,[.int .i64 k]⟩),(5,⟨4,1,[.bool neg]⟩),(6,⟨45,1,[.nils]⟩),(7,⟨32,1,[.int .i64 0]⟩),(8,⟨45,1,[.buf 100 (ppL k neg pre).length]⟩),(100,⟨3,1,ints (ppL k neg pre)⟩),
 (200,⟨9,1,[.str [32]]⟩),(201,⟨9,1,[.str r]⟩),(202,⟨3,1,[.int .i64 0]⟩)]
def ppE:Env:=upd (envOf [(4,.ptr 4 0 0),(5,.ptr 5 0 0),(6,.ptr 6 0 0),(7,.ptr 7 0 0),(8,.ptr 8 0 0)]) 16 (.fn 196 ([200,201,202].map fun k=>.ptr k 0 0))
theorem numU_none {neg:Bool} {k:Nat} {x:List UInt8} (hk:k≤18) (h:∀ n,Lib.atoiAll x=.ok n→(neg=true∨0≤n)→Lib.itoa n=x→k<(Lib.decDigits n.natAbs).length):Lin.numU neg k x=none:=by
 cases hu:Lin.numU neg k x with
 | none=>rfl
 | some n =>
  obtain ⟨g1,g2,g3,g4⟩:=(Lin.numU_atoi hk).1 hu
  have:=h n g1 g2 g3
  omega
set_option maxHeartbeats 1000000 in
theorem pparse_s (s:List UInt8) (k:Nat) (neg:Bool) (hk:k≤18) (hs:s.length≤100000):Sound Tryz.prog 91 [.str s,.int .i64 k,.bool neg] (ppV s k neg):=by
 refine sound_W f_pulse_parse (Nat.le_of_ble_eq_true rfl) ?_
 have hmax:=maxLen_str
 have hsc:scal1 AV.ifc=true:=rfl
 have hsn:scal1 AV.nili=true:=rfl
 have hnum:=Lin.cut_num 32 s
 by_cases hbig:60000<s.length
 ·have hb:(60000:Int)<s.length:=by omega
  have hv:ppV s k neg=.tup [.sl [],.int .i64 8]:=by unfold ppV ppN;rw [if_pos hbig];rfl
  simp only [c_pulse_parse,hb,hv,vZ,Int.reduceEq,Int.reduceNe,Int.reduceLT,Int.reduceLE,Nat.reduceEqDiff,Nat.reduceAdd,reduceIte,reduceCtorEq,Nat.reduceLT,Nat.reduceLeDiff,Nat.reduceShiftRight,Nat.reduceMod]
 have hb:¬ (60000:Int)<s.length:=by omega
 simp only [c_pulse_parse,hb,vZ,Int.reduceEq,Int.reduceNe,Int.reduceLT,Int.reduceLE,Nat.reduceEqDiff,Nat.reduceAdd,reduceIte,reduceCtorEq,Nat.reduceLT,Nat.reduceLeDiff,Nat.reduceShiftRight,Nat.reduceMod]
 refine callS_clo [200,201,202] (SplitSeq_s 32 s) rfl (of_decide_eq_true rfl) (by intro k hk;simp at hk;rcases hk with rfl | rfl | rfl <;> rfl) ?_
 simp only [vZ,Int.reduceEq,Int.reduceNe,Int.reduceLT,Int.reduceLE,Nat.reduceEqDiff,Nat.reduceAdd,reduceIte,reduceCtorEq,Nat.reduceLT,Nat.reduceLeDiff,Nat.reduceShiftRight,Nat.reduceMod]
 refine W_weakR (t:=.mk) (ppE,ppS k neg [] s) ?_ ?_
 ·refine (weakXK [200,201,202] 196 16 rfl [(100,none)] (by intro k hk;simp at hk;rcases hk with rfl | rfl | rfl <;> rfl) (of_decide_eq_true rfl) (of_decide_eq_true rfl) ?_).weak
  (simp only [ppL,Lin.nums,addK,vcW,vZ,Int.reduceEq,Int.reduceNe,Int.reduceLT,Int.reduceLE,Nat.reduceEqDiff,Nat.reduceAdd,reduceIte,reduceCtorEq,Nat.reduceLT,Nat.reduceLeDiff,Nat.reduceShiftRight,Nat.reduceMod])
  repeat' first | exact RnB.one (.imm AV.nils rfl) rfl rfl rfl | (with_reducible refine And.intro ?_ ?_)
  all_goals (repeat' first | exact trivial | (with_reducible first | exact RnB.fxB (ints_fxB _) | rfl | refine And.intro ?_ ?_) | (with_reducible (first | refine RnB.bb ?_ | refine RnB.nb ?_);simp only [vcW,vZ,Int.reduceEq,Int.reduceNe,Int.reduceLT,Int.reduceLE,Nat.reduceEqDiff,Nat.reduceAdd,reduceIte,reduceCtorEq,Nat.reduceLT,Nat.reduceLeDiff,Nat.reduceShiftRight,Nat.reduceMod]) | (with_reducible first | refine RnB.ii ?_ | refine RnB.app ?_) | (with_reducible refine RnB.fxB ?_;simp only [vcW,vZ,Int.reduceEq,Int.reduceNe,Int.reduceLT,Int.reduceLE,Nat.reduceEqDiff,Nat.reduceAdd,reduceIte,reduceCtorEq,Nat.reduceLT,Nat.reduceLeDiff,Nat.reduceShiftRight,Nat.reduceMod]) | omega)
 ·refine W_rfCI (tt:=.mk) (k1:=200) (k2:=201) (k3:=202) 999 ⟨by decide,by decide,by decide⟩ rfl rfl rfl rfl (splitC 32) (by omega) (fun pre=>∃ l,Lin.nums neg k pre=some l) ⟨[],rfl⟩ (ppS k neg) (fun pre r=>⟨rfl,rfl,rfl⟩) (fun pre r r'=>?_) rfl (fun pre x rest r hsp hI=>?_) (fun r hI=>?_)
  ·funext j
   unfold ppS
   by_cases h:j=201
   ·subst h;simp [stOf,upd_app]
   ·simp only [stOf,upd_app,h,if_false]
  ·obtain ⟨l,hI⟩:=hI
   have hL:ppL k neg pre=l:=by unfold ppL;rw [hI];rfl
   have hxm:x ∈ Lin.cut 32 s:=by rw [← hsp];simp
   have hxl:=Lin.cut_len x hxm
   have hll:=Lin.nums_len hI
   have hpl:pre.length≤(Lin.cut 32 s).length:=by rw [← hsp];simp
   have hno:Lin.numU neg k x=none→ppV s k neg=.tup [.sl [],.int .i64 7]:=fun h=>by
    have:Lin.nums neg k (Lin.cut 32 s)=none:=by rw [← hsp,Lin.nums_none h]
    unfold ppV ppN;rw [if_neg hbig,this];rfl
   simp only [ppE,ppS,hL,vZ,Int.reduceEq,Int.reduceNe,Int.reduceLT,Int.reduceLE,Nat.reduceEqDiff,Nat.reduceAdd,reduceIte,reduceCtorEq,Nat.reduceLT,Nat.reduceLeDiff,Nat.reduceShiftRight,Nat.reduceMod]
   refine callS_of (Atoi_s x (by omega)) ?_
   unfold atoiV
   cases ha:Lib.atoiAll x with
   | ok v =>
    have hv:=Lib.atoiAll_bounds ha
    by_cases hvn:v<0∧neg=false
    ·obtain ⟨hv0,rfl⟩:=hvn
     have hn:Lin.numU false k x=none:=numU_none hk fun n g1 g2 _=>by rw [ha] at g1;cases g1;simp at g2;omega
     rw [hno hn]
     simp only [rfQI_n,rfQI_r,rfQI_x,hsc,hsn,hv0,vZ,Int.reduceEq,Int.reduceNe,Int.reduceLT,Int.reduceLE,Nat.reduceEqDiff,Nat.reduceAdd,reduceIte,reduceCtorEq,Nat.reduceLT,Nat.reduceLeDiff,Nat.reduceShiftRight,Nat.reduceMod]
    have hTP:=TrimPrefix_s x [45]
    by_cases hi:Lib.itoa v=x
    ·have htr:Lib.trimPrefix x [45]=Lib.decDigits v.natAbs:=by rw [← hi];exact Lin.itoa_trim v
     rw [htr] at hTP
     by_cases hl7:(Lib.decDigits v.natAbs).length≤k
     ·have hn:Lin.numU neg k x=some v:=(Lin.numU_atoi hk).2 ⟨ha,by cases neg <;> simp at hvn ⊢;omega,hi,hl7⟩
      have hc:¬ (k:Int)<(Lib.decDigits v.natAbs).length:=by omega
      have hnext:=Lin.nums_snoc hI hn
      have hL2:ppL k neg (pre ++ [x])=l ++ [v]:=by unfold ppL;rw [hnext];rfl
      by_cases hv0:v<0
      ·obtain rfl:neg=true:=by cases neg <;> simp_all
       simp only [rfQI_n,rfQI_r,rfQI_x,hsc,hsn,hv0,vZ,Int.reduceEq,Int.reduceNe,Int.reduceLT,Int.reduceLE,Nat.reduceEqDiff,Nat.reduceAdd,reduceIte,reduceCtorEq,Nat.reduceLT,Nat.reduceLeDiff,Nat.reduceShiftRight,Nat.reduceMod]
       refine callS_of (Itoa_s v hv) ?_
       simp only [rfQI_n,rfQI_r,rfQI_x,hsc,hsn,hi,vZ,Int.reduceEq,Int.reduceNe,Int.reduceLT,Int.reduceLE,Nat.reduceEqDiff,Nat.reduceAdd,reduceIte,reduceCtorEq,Nat.reduceLT,Nat.reduceLeDiff,Nat.reduceShiftRight,Nat.reduceMod]
       refine callS_of hTP ?_
       simp only [rfQI_n,rfQI_r,rfQI_x,hsc,hsn,hc,vZ,Int.reduceEq,Int.reduceNe,Int.reduceLT,Int.reduceLE,Nat.reduceEqDiff,Nat.reduceAdd,reduceIte,reduceCtorEq,Nat.reduceLT,Nat.reduceLeDiff,Nat.reduceShiftRight,Nat.reduceMod]
       refine ⟨⟨by omega,by omega⟩,⟨_,hnext⟩,?_⟩
       rw [hL2,show (l ++ [v]).length=l.length+1 by simp,ints_append]
       refine weakXK [200,201,202] 196 16 rfl [(100,some 49)] (by intro k hk;simp at hk;rcases hk with rfl | rfl | rfl <;> rfl) (of_decide_eq_true rfl) (of_decide_eq_true rfl) ?_
       (simp only [vcW,vZ,Int.reduceEq,Int.reduceNe,Int.reduceLT,Int.reduceLE,Nat.reduceEqDiff,Nat.reduceAdd,reduceIte,reduceCtorEq,Nat.reduceLT,Nat.reduceLeDiff,Nat.reduceShiftRight,Nat.reduceMod])
       repeat' first | exact RnB.one (.imm AV.nils rfl) rfl rfl rfl | (with_reducible refine And.intro ?_ ?_)
       all_goals (repeat' first | exact trivial | (with_reducible first | exact RnB.fxB (ints_fxB _) | rfl | refine And.intro ?_ ?_) | (with_reducible (first | refine RnB.bb ?_ | refine RnB.nb ?_);simp only [vcW,vZ,Int.reduceEq,Int.reduceNe,Int.reduceLT,Int.reduceLE,Nat.reduceEqDiff,Nat.reduceAdd,reduceIte,reduceCtorEq,Nat.reduceLT,Nat.reduceLeDiff,Nat.reduceShiftRight,Nat.reduceMod]) | (with_reducible first | refine RnB.ii ?_ | refine RnB.app ?_) | (with_reducible refine RnB.fxB ?_;simp only [vcW,vZ,Int.reduceEq,Int.reduceNe,Int.reduceLT,Int.reduceLE,Nat.reduceEqDiff,Nat.reduceAdd,reduceIte,reduceCtorEq,Nat.reduceLT,Nat.reduceLeDiff,Nat.reduceShiftRight,Nat.reduceMod]) | omega)
       all_goals first | exact (ints_append _ _).symm | trace_state
      ·cases neg
       all_goals
        simp only [rfQI_n,rfQI_r,rfQI_x,hsc,hsn,hv0,vZ,Int.reduceEq,Int.reduceNe,Int.reduceLT,Int.reduceLE,Nat.reduceEqDiff,Nat.reduceAdd,reduceIte,reduceCtorEq,Nat.reduceLT,Nat.reduceLeDiff,Nat.reduceShiftRight,Nat.reduceMod]
        refine callS_of (Itoa_s v hv) ?_
        simp only [rfQI_n,rfQI_r,rfQI_x,hsc,hsn,hi,vZ,Int.reduceEq,Int.reduceNe,Int.reduceLT,Int.reduceLE,Nat.reduceEqDiff,Nat.reduceAdd,reduceIte,reduceCtorEq,Nat.reduceLT,Nat.reduceLeDiff,Nat.reduceShiftRight,Nat.reduceMod]
        refine callS_of hTP ?_
        simp only [rfQI_n,rfQI_r,rfQI_x,hsc,hsn,hc,vZ,Int.reduceEq,Int.reduceNe,Int.reduceLT,Int.reduceLE,Nat.reduceEqDiff,Nat.reduceAdd,reduceIte,reduceCtorEq,Nat.reduceLT,Nat.reduceLeDiff,Nat.reduceShiftRight,Nat.reduceMod]
        refine ⟨⟨by omega,by omega⟩,⟨_,hnext⟩,?_⟩
        rw [hL2,show (l ++ [v]).length=l.length+1 by simp,ints_append]
        refine weakXK [200,201,202] 196 16 rfl [(100,some 49)] (by intro k hk;simp at hk;rcases hk with rfl | rfl | rfl <;> rfl) (of_decide_eq_true rfl) (of_decide_eq_true rfl) ?_
        (simp only [vcW,vZ,Int.reduceEq,Int.reduceNe,Int.reduceLT,Int.reduceLE,Nat.reduceEqDiff,Nat.reduceAdd,reduceIte,reduceCtorEq,Nat.reduceLT,Nat.reduceLeDiff,Nat.reduceShiftRight,Nat.reduceMod])
        repeat' first | exact RnB.one (.imm AV.nils rfl) rfl rfl rfl | (with_reducible refine And.intro ?_ ?_)
        all_goals (repeat' first | exact trivial | (with_reducible first | exact RnB.fxB (ints_fxB _) | rfl | refine And.intro ?_ ?_) | (with_reducible (first | refine RnB.bb ?_ | refine RnB.nb ?_);simp only [vcW,vZ,Int.reduceEq,Int.reduceNe,Int.reduceLT,Int.reduceLE,Nat.reduceEqDiff,Nat.reduceAdd,reduceIte,reduceCtorEq,Nat.reduceLT,Nat.reduceLeDiff,Nat.reduceShiftRight,Nat.reduceMod]) | (with_reducible first | refine RnB.ii ?_ | refine RnB.app ?_) | (with_reducible refine RnB.fxB ?_;simp only [vcW,vZ,Int.reduceEq,Int.reduceNe,Int.reduceLT,Int.reduceLE,Nat.reduceEqDiff,Nat.reduceAdd,reduceIte,reduceCtorEq,Nat.reduceLT,Nat.reduceLeDiff,Nat.reduceShiftRight,Nat.reduceMod]) | omega)
        all_goals first | exact (ints_append _ _).symm | trace_state
     ·have hn:Lin.numU neg k x=none:=numU_none hk fun n g1 g2 g3=>by rw [ha] at g1;cases g1;omega
      have hc:(k:Int)<(Lib.decDigits v.natAbs).length:=by omega
      rw [hno hn]
      by_cases hv0:v<0
      ·obtain rfl:neg=true:=by cases neg <;> simp_all
       simp only [rfQI_n,rfQI_r,rfQI_x,hsc,hsn,hv0,vZ,Int.reduceEq,Int.reduceNe,Int.reduceLT,Int.reduceLE,Nat.reduceEqDiff,Nat.reduceAdd,reduceIte,reduceCtorEq,Nat.reduceLT,Nat.reduceLeDiff,Nat.reduceShiftRight,Nat.reduceMod]
       refine callS_of (Itoa_s v hv) ?_
       simp only [rfQI_n,rfQI_r,rfQI_x,hsc,hsn,hi,vZ,Int.reduceEq,Int.reduceNe,Int.reduceLT,Int.reduceLE,Nat.reduceEqDiff,Nat.reduceAdd,reduceIte,reduceCtorEq,Nat.reduceLT,Nat.reduceLeDiff,Nat.reduceShiftRight,Nat.reduceMod]
       refine callS_of hTP ?_
       simp only [rfQI_n,rfQI_r,rfQI_x,hsc,hsn,hc,vZ,Int.reduceEq,Int.reduceNe,Int.reduceLT,Int.reduceLE,Nat.reduceEqDiff,Nat.reduceAdd,reduceIte,reduceCtorEq,Nat.reduceLT,Nat.reduceLeDiff,Nat.reduceShiftRight,Nat.reduceMod]
      ·cases neg
       all_goals
        simp only [rfQI_n,rfQI_r,rfQI_x,hsc,hsn,hv0,vZ,Int.reduceEq,Int.reduceNe,Int.reduceLT,Int.reduceLE,Nat.reduceEqDiff,Nat.reduceAdd,reduceIte,reduceCtorEq,Nat.reduceLT,Nat.reduceLeDiff,Nat.reduceShiftRight,Nat.reduceMod]
        refine callS_of (Itoa_s v hv) ?_
        simp only [rfQI_n,rfQI_r,rfQI_x,hsc,hsn,hi,vZ,Int.reduceEq,Int.reduceNe,Int.reduceLT,Int.reduceLE,Nat.reduceEqDiff,Nat.reduceAdd,reduceIte,reduceCtorEq,Nat.reduceLT,Nat.reduceLeDiff,Nat.reduceShiftRight,Nat.reduceMod]
        refine callS_of hTP ?_
        simp only [rfQI_n,rfQI_r,rfQI_x,hsc,hsn,hc,vZ,Int.reduceEq,Int.reduceNe,Int.reduceLT,Int.reduceLE,Nat.reduceEqDiff,Nat.reduceAdd,reduceIte,reduceCtorEq,Nat.reduceLT,Nat.reduceLeDiff,Nat.reduceShiftRight,Nat.reduceMod]
    ·have hn:Lin.numU neg k x=none:=numU_none hk fun n g1 g2 g3=>by rw [ha] at g1;cases g1;exact absurd g3 hi
     rw [hno hn]
     by_cases hv0:v<0
     ·obtain rfl:neg=true:=by cases neg <;> simp_all
      simp only [rfQI_n,rfQI_r,rfQI_x,hsc,hsn,hv0,vZ,Int.reduceEq,Int.reduceNe,Int.reduceLT,Int.reduceLE,Nat.reduceEqDiff,Nat.reduceAdd,reduceIte,reduceCtorEq,Nat.reduceLT,Nat.reduceLeDiff,Nat.reduceShiftRight,Nat.reduceMod]
      refine callS_of (Itoa_s v hv) ?_
      simp only [rfQI_n,rfQI_r,rfQI_x,hsc,hsn,hi,vZ,Int.reduceEq,Int.reduceNe,Int.reduceLT,Int.reduceLE,Nat.reduceEqDiff,Nat.reduceAdd,reduceIte,reduceCtorEq,Nat.reduceLT,Nat.reduceLeDiff,Nat.reduceShiftRight,Nat.reduceMod]
     ·cases neg
      all_goals
       simp only [rfQI_n,rfQI_r,rfQI_x,hsc,hsn,hv0,vZ,Int.reduceEq,Int.reduceNe,Int.reduceLT,Int.reduceLE,Nat.reduceEqDiff,Nat.reduceAdd,reduceIte,reduceCtorEq,Nat.reduceLT,Nat.reduceLeDiff,Nat.reduceShiftRight,Nat.reduceMod]
       refine callS_of (Itoa_s v hv) ?_
       simp only [rfQI_n,rfQI_r,rfQI_x,hsc,hsn,hi,vZ,Int.reduceEq,Int.reduceNe,Int.reduceLT,Int.reduceLE,Nat.reduceEqDiff,Nat.reduceAdd,reduceIte,reduceCtorEq,Nat.reduceLT,Nat.reduceLeDiff,Nat.reduceShiftRight,Nat.reduceMod]
   | _ =>
    have hn:Lin.numU neg k x=none:=numU_none hk fun n g1 _ _=>by rw [ha] at g1;cases g1
    rw [hno hn]
    simp only [rfQI_n,rfQI_r,rfQI_x,hsc,hsn,vZ,Int.reduceEq,Int.reduceNe,Int.reduceLT,Int.reduceLE,Nat.reduceEqDiff,Nat.reduceAdd,reduceIte,reduceCtorEq,Nat.reduceLT,Nat.reduceLeDiff,Nat.reduceShiftRight,Nat.reduceMod]
  ·obtain ⟨l,hI⟩:=hI
   have hL:ppL k neg (Lin.cut 32 s)=l:=by unfold ppL;rw [hI];rfl
   rw [show ppV s k neg=.tup [.sl (ints l),.int .i64 0] by unfold ppV ppN;rw [if_neg hbig,hI]]
   simp only [rfQI_n,rfQI_r,rfQI_x,hsc,hsn,ppE,ppS,hL,vZ,Int.reduceEq,Int.reduceNe,Int.reduceLT,Int.reduceLE,Nat.reduceEqDiff,Nat.reduceAdd,reduceIte,reduceCtorEq,Nat.reduceLT,Nat.reduceLeDiff,Nat.reduceShiftRight,Nat.reduceMod]
   rw [borB_good _ _ _ _ _ (by simp [ints]) (ints_fx _)]
end Go.Proofs.YtpaklfjlbocfcaaGreatDoor

/- Parts that all chapters share. Contracts of small functions. By an AI agent;nothing here is trusted. -/
namespace Go.Proofs.YtpaklfjlbocfcaaGreatDoor
open Go.Av

abbrev i64 (n:Int):AV:=.int .i64 n
def firstErr (l:List Int):Int:=(l.find? (· ≠ 0)).getD 0

def idxOf {α:Type} (l:List α) (p:α→Bool):Int:=match l.findIdx? p with
 | some i=>i
 | none => -1

theorem map_fx1 {caps:List AV} (h:∀ c ∈ caps,fx1 c=true) (s:Store) (n:Nat):caps.map (bor s n)=caps:=by
 conv=>rhs;rw [← List.map_id caps]
 exact List.map_congr_left fun c hc=>(fx1_spec (h c hc)).2 s n

theorem idxFunc_int_s (l:List Int) (f:FuncId) (caps:List AV) (p:Int→Bool) (hl:l.length<4000000000000000000) (hc:∀ c ∈ caps,fx1 c=true)
  (hp:∀ x ∈ l,Sound Tryz.prog f (.int .i64 x :: caps) (.bool (p x))):Sound Tryz.prog 168 [.sl (ints l),.fn f caps] (.int .i64 (idxOf l p)):=by
 refine sound_W f_slices_IndexFunc_int_int (Nat.le_of_ble_eq_true rfl) ?_
 simp only [c_slices_IndexFunc_int_int,vcC,Int.reduceEq,Int.reduceNe,Int.reduceLT,Int.reduceLE,Nat.reduceEqDiff,Nat.reduceAdd,reduceIte,reduceCtorEq,Nat.reduceLT,Nat.reduceLeDiff,eq_self,vcP]
 refine W_loop (α:=PSigma fun i:Nat=>i≤l.length∧∀ x ∈ l.take i,p x=false) (fun i=>(envOf [(0,.sl (ints l)),(1,.fn f caps),(6,.sl (ints l)),(7,.int .i64 l.length),(8,.int .i64 i.1)],noStore)) (fun i=>l.length - i.1) ⟨0,by simp⟩ (weakE _ ?_) (fun ⟨i,hi,hn⟩=>?_)
 ·simp only [vcC,Int.reduceEq,Int.reduceNe,Int.reduceLT,Int.reduceLE,Nat.reduceEqDiff,Nat.reduceAdd,reduceIte,reduceCtorEq,Nat.reduceLT,Nat.reduceLeDiff,eq_self,vcP];rfl
 ·simp only [vcC,Int.reduceEq,Int.reduceNe,Int.reduceLT,Int.reduceLE,Nat.reduceEqDiff,Nat.reduceAdd,reduceIte,reduceCtorEq,Nat.reduceLT,Nat.reduceLeDiff,eq_self,vcP]
  refine brB_split (fun h=>?_) (fun h=>?_)
  ·have h':i<l.length:=by (simp only [decide_eq_true_eq,decide_eq_false_iff_not,Bool.not_true,I64,Bool.not_eq_true',Bool.not_eq_false',bne_iff_ne,beq_iff_eq,ne_eq] at *;omega)
   simp only [ints_get l i h',vcC,Int.reduceEq,Int.reduceNe,Int.reduceLT,Int.reduceLE,Nat.reduceEqDiff,Nat.reduceAdd,reduceIte,reduceCtorEq,Nat.reduceLT,Nat.reduceLeDiff,eq_self,vcP]
   refine ⟨by omega,?_⟩
   simp only [List.map_append,List.cons_append,List.nil_append,map_fx1 hc,vcC,Int.reduceEq,Int.reduceNe,Int.reduceLT,Int.reduceLE,Nat.reduceEqDiff,Nat.reduceAdd,reduceIte,reduceCtorEq,Nat.reduceLT,Nat.reduceLeDiff,eq_self,vcP]
   refine callS_of (hp _ (List.getElem_mem h')) ?_
   simp only [vcC,Int.reduceEq,Int.reduceNe,Int.reduceLT,Int.reduceLE,Nat.reduceEqDiff,Nat.reduceAdd,reduceIte,reduceCtorEq,Nat.reduceLT,Nat.reduceLeDiff,eq_self,vcP]
   refine brB_split (fun h=>?_) (fun h=>?_)
   ·simp only [vcC,Int.reduceEq,Int.reduceNe,Int.reduceLT,Int.reduceLE,Nat.reduceEqDiff,Nat.reduceAdd,reduceIte,reduceCtorEq,Nat.reduceLT,Nat.reduceLeDiff,eq_self,vcP]
    have hs:l.findIdx? p=some i:=by
     rw [List.findIdx?_eq_some_iff_getElem]
     refine ⟨h',h,fun j hj=>?_⟩
     have:=hn l[j] (by rw [List.mem_take_iff_getElem];exact ⟨j,by omega,rfl⟩)
     simp [this]
    simp [idxOf,hs]
   ·simp only [vcC,Int.reduceEq,Int.reduceNe,Int.reduceLT,Int.reduceLE,Nat.reduceEqDiff,Nat.reduceAdd,reduceIte,reduceCtorEq,Nat.reduceLT,Nat.reduceLeDiff,eq_self,vcP]
    refine ⟨by (simp only [decide_eq_true_eq,decide_eq_false_iff_not,Bool.not_true,I64,Bool.not_eq_true',Bool.not_eq_false',bne_iff_ne,beq_iff_eq,ne_eq] at *;omega),⟨i+1,by omega,?_⟩,by simp only;omega,weakE _ ?_⟩
    ·rw [List.take_succ_eq_append_getElem h']
     intro x hx
     rcases List.mem_append.1 hx with hx | hx
     ·exact hn x hx
     ·simp at hx;rw [hx];exact h
    ·simp only [vcC,Int.reduceEq,Int.reduceNe,Int.reduceLT,Int.reduceLE,Nat.reduceEqDiff,Nat.reduceAdd,reduceIte,reduceCtorEq,Nat.reduceLT,Nat.reduceLeDiff,eq_self,vcP];simp
  ·simp only [vcC,Int.reduceEq,Int.reduceNe,Int.reduceLT,Int.reduceLE,Nat.reduceEqDiff,Nat.reduceAdd,reduceIte,reduceCtorEq,Nat.reduceLT,Nat.reduceLeDiff,eq_self,vcP]
   have:i=l.length:=by (simp only [decide_eq_true_eq,decide_eq_false_iff_not,Bool.not_true,I64,Bool.not_eq_true',Bool.not_eq_false',bne_iff_ne,beq_iff_eq,ne_eq] at *;omega)
   subst this
   rw [List.take_length] at hn
   have hs:l.findIdx? p=none:=List.findIdx?_eq_none_iff.2 hn
   simp [idxOf,hs]

theorem idxOf_any {α:Type} (l:List α) (p:α→Bool):(decide (0≤idxOf l p))=l.any p:=by
 unfold idxOf
 cases h:l.findIdx? p with
 | none =>
  rw [List.findIdx?_eq_none_iff] at h
  have:l.any p=false:=by simpa using h
  rw [this];rfl
 | some i =>
  rw [List.findIdx?_eq_some_iff_getElem] at h
  obtain ⟨hi,hp,_⟩:=h
  have:l.any p=true:=List.any_eq_true.2 ⟨_,List.getElem_mem hi,hp⟩
  rw [this];simp

theorem contFunc_int_s (l:List Int) (f:FuncId) (caps:List AV) (p:Int→Bool) (hl:l.length<4000000000000000000) (hc:∀ c ∈ caps,fx1 c=true)
  (hp:∀ x ∈ l,Sound Tryz.prog f (.int .i64 x :: caps) (.bool (p x))):Sound Tryz.prog 113 [.sl (ints l),.fn f caps] (.bool (l.any p)):=by
 refine sound_W f_slices_ContainsFunc_int_int (Nat.le_of_ble_eq_true rfl) ?_
 simp only [c_slices_ContainsFunc_int_int,map_fx1 hc,vcC,Int.reduceEq,Int.reduceNe,Int.reduceLT,Int.reduceLE,Nat.reduceEqDiff,Nat.reduceAdd,reduceIte,reduceCtorEq,Nat.reduceLT,Nat.reduceLeDiff,eq_self,vcP]
 refine callS_of (idxFunc_int_s l f caps p hl hc hp) ?_
 simp only [vcC,Int.reduceEq,Int.reduceNe,Int.reduceLT,Int.reduceLE,Nat.reduceEqDiff,Nat.reduceAdd,reduceIte,reduceCtorEq,Nat.reduceLT,Nat.reduceLeDiff,eq_self,vcP]
 rw [idxOf_any]

end Go.Proofs.YtpaklfjlbocfcaaGreatDoor

/- Contracts of the small functions of the base. By an AI agent;nothing here is trusted. -/
namespace Go.Proofs.YtpaklfjlbocfcaaGreatDoor
open Go.Av

theorem Within_s (n lo hi:Int):Sound Tryz.prog 40 [.int .i64 n,.int .i64 lo,.int .i64 hi] (.bool (decide (lo≤n∧n≤hi))):=by
 refine sound_W f_base_Within (Nat.le_of_ble_eq_true rfl) ?_
 simp only [c_base_Within,vcC,Int.reduceEq,Int.reduceNe,Int.reduceLT,Int.reduceLE,Nat.reduceEqDiff,Nat.reduceAdd,reduceIte,reduceCtorEq,Nat.reduceLT,Nat.reduceLeDiff,eq_self,vcP]
 refine brB_split (fun h=>?_) (fun h=>?_) <;> simp only [h,vcC,Int.reduceEq,Int.reduceNe,Int.reduceLT,Int.reduceLE,Nat.reduceEqDiff,Nat.reduceAdd,reduceIte,reduceCtorEq,Nat.reduceLT,Nat.reduceLeDiff,eq_self,vcP]
 ·exact bool_eq (by simp at h;simp [h])
 ·simp at h;simp;omega

end Go.Proofs.YtpaklfjlbocfcaaGreatDoor

/- Contracts of the base: copies,comparisons,fractions. By an AI agent;nothing here is trusted. -/
namespace Go.Proofs.YtpaklfjlbocfcaaGreatDoor
open Go.Av

theorem newsOk_ints (l:List Int):newsOk 1 (ints l):=by
 intro x hx
 obtain ⟨n,_,rfl⟩:=List.mem_map.1 hx
 exact ⟨rfl,rfl⟩
theorem maxLen_big:4000000000000≤maxLen:=by decide

theorem CopyInts_s (l:List Int) (hl:l.length≤1000000000):Sound Tryz.prog 49 [.sl (ints l)] (.sl (ints l)):=by
 refine sound_W f_base_CopyInts (Nat.le_of_ble_eq_true rfl) ?_
 have hm:=maxLen_big
 simp only [c_base_CopyInts,vZ,Int.reduceEq,Int.reduceNe,Int.reduceLT,Int.reduceLE,Nat.reduceEqDiff,Nat.reduceAdd,reduceIte,reduceCtorEq,Nat.reduceLT,Nat.reduceLeDiff,Nat.reduceShiftRight,Nat.reduceMod]
 refine ⟨newsOk_ints l,⟨by omega,by omega⟩,?_⟩
 rw [borB_good _ _ _ _ _ (by simp [ints]) (ints_fx _)]

theorem Ints_s (a b:List Int) (ha:a.length≤1000000000):Sound Tryz.prog 33 [.sl (ints a),.sl (ints b)] (.bool (decide (a=b))):=by
 refine sound_W f_base_Ints (Nat.le_of_ble_eq_true rfl) ?_
 simp only [c_base_Ints,vZ,Int.reduceEq,Int.reduceNe,Int.reduceLT,Int.reduceLE,Nat.reduceEqDiff,Nat.reduceAdd,reduceIte,reduceCtorEq,Nat.reduceLT,Nat.reduceLeDiff,Nat.reduceShiftRight,Nat.reduceMod]
 refine brB_split (fun h=>?_) (fun h=>?_)
 ·simp only [vZ,Int.reduceEq,Int.reduceNe,Int.reduceLT,Int.reduceLE,Nat.reduceEqDiff,Nat.reduceAdd,reduceIte,reduceCtorEq,Nat.reduceLT,Nat.reduceLeDiff,Nat.reduceShiftRight,Nat.reduceMod]
  have:a ≠ b:=fun hab=>by subst hab;simp at h
  simp [this]
 ·have hlen:a.length=b.length:=by (simp only [decide_eq_true_eq,decide_eq_false_iff_not,Bool.not_true,I64,Bool.not_eq_true',Bool.not_eq_false',bne_iff_ne,beq_iff_eq,ne_eq] at *;omega)
  simp only [vZ,Int.reduceEq,Int.reduceNe,Int.reduceLT,Int.reduceLE,Nat.reduceEqDiff,Nat.reduceAdd,reduceIte,reduceCtorEq,Nat.reduceLT,Nat.reduceLeDiff,Nat.reduceShiftRight,Nat.reduceMod]
  refine W_loop (α:=PSigma fun i:Nat=>i≤a.length∧a.take i=b.take i) (fun i=>(envOf [(0,.sl (ints a)),(1,.sl (ints b)),(5,.int .i64 i.1)],noStore)) (fun i=>a.length - i.1) ⟨0,by simp⟩ (weakE _ ?_) (fun ⟨i,hi,hn⟩=>?_)
  ·simp only [vZ,Int.reduceEq,Int.reduceNe,Int.reduceLT,Int.reduceLE,Nat.reduceEqDiff,Nat.reduceAdd,reduceIte,reduceCtorEq,Nat.reduceLT,Nat.reduceLeDiff,Nat.reduceShiftRight,Nat.reduceMod];rfl
  ·simp only [vZ,Int.reduceEq,Int.reduceNe,Int.reduceLT,Int.reduceLE,Nat.reduceEqDiff,Nat.reduceAdd,reduceIte,reduceCtorEq,Nat.reduceLT,Nat.reduceLeDiff,Nat.reduceShiftRight,Nat.reduceMod]
   refine brB_split (fun h=>?_) (fun h=>?_)
   ·have h':i<a.length:=by (simp only [decide_eq_true_eq,decide_eq_false_iff_not,Bool.not_true,I64,Bool.not_eq_true',Bool.not_eq_false',bne_iff_ne,beq_iff_eq,ne_eq] at *;omega)
    have h2:i<b.length:=by omega
    simp only [ints_get a i h',ints_get b i h2,vZ,Int.reduceEq,Int.reduceNe,Int.reduceLT,Int.reduceLE,Nat.reduceEqDiff,Nat.reduceAdd,reduceIte,reduceCtorEq,Nat.reduceLT,Nat.reduceLeDiff,Nat.reduceShiftRight,Nat.reduceMod]
    refine ⟨by omega,by omega,?_⟩
    refine brB_split (fun h=>?_) (fun h=>?_)
    ·simp only [vZ,Int.reduceEq,Int.reduceNe,Int.reduceLT,Int.reduceLE,Nat.reduceEqDiff,Nat.reduceAdd,reduceIte,reduceCtorEq,Nat.reduceLT,Nat.reduceLeDiff,Nat.reduceShiftRight,Nat.reduceMod]
     have:a ≠ b:=fun hab=>by subst hab;simp at h
     simp [this]
    ·simp only [vZ,Int.reduceEq,Int.reduceNe,Int.reduceLT,Int.reduceLE,Nat.reduceEqDiff,Nat.reduceAdd,reduceIte,reduceCtorEq,Nat.reduceLT,Nat.reduceLeDiff,Nat.reduceShiftRight,Nat.reduceMod]
     refine ⟨by (simp only [decide_eq_true_eq,decide_eq_false_iff_not,Bool.not_true,I64,Bool.not_eq_true',Bool.not_eq_false',bne_iff_ne,beq_iff_eq,ne_eq] at *;omega),⟨i+1,by omega,?_⟩,by simp only;omega,weakE _ ?_⟩
     ·rw [List.take_succ_eq_append_getElem h',List.take_succ_eq_append_getElem h2,hn]
      simp at h;rw [h]
     ·simp only [vZ,Int.reduceEq,Int.reduceNe,Int.reduceLT,Int.reduceLE,Nat.reduceEqDiff,Nat.reduceAdd,reduceIte,reduceCtorEq,Nat.reduceLT,Nat.reduceLeDiff,Nat.reduceShiftRight,Nat.reduceMod];simp
   ·simp only [vZ,Int.reduceEq,Int.reduceNe,Int.reduceLT,Int.reduceLE,Nat.reduceEqDiff,Nat.reduceAdd,reduceIte,reduceCtorEq,Nat.reduceLT,Nat.reduceLeDiff,Nat.reduceShiftRight,Nat.reduceMod]
    have:i=a.length:=by (simp only [decide_eq_true_eq,decide_eq_false_iff_not,Bool.not_true,I64,Bool.not_eq_true',Bool.not_eq_false',bne_iff_ne,beq_iff_eq,ne_eq] at *;omega)
    subst this
    have hb:a=b:=by
     have:=hn
     rw [List.take_length,hlen,List.take_length] at this
     exact this
    simp [hb]

def S63 (n:Int):Prop := -9223372036854775807≤n∧n≤9223372036854775807
theorem max_neg (n:Int):max n (-n)=n.natAbs:=by omega
theorem Size_s (n:Int) (h:S63 n):Sound Tryz.prog 153 [.int .i64 n] (.int .i64 n.natAbs):=by
 refine sound_W f_base_Size (Nat.le_of_ble_eq_true rfl) ?_
 unfold S63 at h
 simp only [c_base_Size,max_neg,vZ,Int.reduceEq,Int.reduceNe,Int.reduceLT,Int.reduceLE,Nat.reduceEqDiff,Nat.reduceAdd,reduceIte,reduceCtorEq,Nat.reduceLT,Nat.reduceLeDiff,Nat.reduceShiftRight,Nat.reduceMod]
 (simp only [decide_eq_true_eq,decide_eq_false_iff_not,Bool.not_true,I64,Bool.not_eq_true',Bool.not_eq_false',bne_iff_ne,beq_iff_eq,ne_eq] at *;omega)

end Go.Proofs.YtpaklfjlbocfcaaGreatDoor

/- Contracts: numerals of the base (taken out of the fits of pulses). By an AI agent;nothing here is trusted. -/
namespace Go.Proofs.YtpaklfjlbocfcaaGreatDoor
open Go.Av
theorem bytesOf_1 (n:Int) (h:0≤n∧n<256):bytesOf [.int .u8 n]=some [UInt8.ofNat n.toNat]:=by
 simp only [bytesOf,h,and_self,if_true,Option.map_some]
theorem u8_wrap {n:Int} (h:0≤n∧n<256):IntKind.u8.wrap n=n:=by
 have:IntKind.u8.wrap n=n % 256:=by simp [IntKind.wrap,IntKind.bits,IntKind.signed]
 rw [this];omega
theorem itoa_zero:Lib.itoa 0=[48]:=by
 unfold Lib.itoa;rw [if_neg (by omega)]
 show Lib.decDigits 0=[48]
 rw [Lib.decDigits];rfl
theorem dec_snoc {u:Nat} (h:10≤u):Lib.decDigits u=Lib.decDigits (u / 10) ++ [UInt8.ofNat (48+u % 10)]:=by
 conv=>lhs;rw [Lib.decDigits,dif_neg (by omega)]
def decM (u:Nat):List UInt8:=if u=0 then [] else Lib.decDigits u
theorem decM_step {u:Nat} (h:u ≠ 0):decM u=decM (u / 10) ++ [UInt8.ofNat (48+u % 10)]:=by
 unfold decM
 rw [if_neg h]
 by_cases h10:u<10
 ·rw [if_pos (by omega),Lib.decDigits,dif_pos h10,Nat.mod_eq_of_lt h10];rfl
 ·rw [if_neg (by omega),dec_snoc (by omega)]
theorem decM_len:∀ {u k:Nat},u<10 ^ k→(decM u).length≤k
 | u,0,h=>by
  have:u=0:=by simpa using h
  subst this;simp [decM]
 | u,k+1,h=>by
  by_cases h0:u=0
  ·subst h0;simp [decM]
  ·rw [decM_step h0,List.length_append,List.length_singleton]
   have:=decM_len (u:=u / 10) (k:=k) (by rw [Nat.pow_succ] at h;omega)
   omega
theorem Decimal_s (n:Int) (hn:I64 n):Sound Tryz.prog 84 [.int .i64 n] (.str (Lib.itoa n)):=by
 refine sound_W f_base_Decimal (Nat.le_of_ble_eq_true rfl) ?_
 by_cases h0:n=0
 ·subst h0
  rw [itoa_zero]
  simp only [c_base_Decimal,vZ,Int.reduceEq,Int.reduceNe,Int.reduceLT,Int.reduceLE,Nat.reduceEqDiff,Nat.reduceAdd,reduceIte,reduceCtorEq,Nat.reduceLT,Nat.reduceLeDiff,Nat.reduceShiftRight,Nat.reduceMod]
 have hn':=hn
 unfold I64 at hn
 have hbig:∀ u:Nat,u≤n.natAbs→(decM u).length≤20:=fun u hu=>decM_len (by have:(10:Nat) ^ 20=100000000000000000000:=(by decide);omega)
 have key:∃ (f:Nat→Int) (sg:List UInt8),f n.natAbs=n∧sg ++ decM n.natAbs=Lib.itoa n∧sg=(if n<0 then [45] else []) ∧
   ∀ u:Nat,(u ≠ 0→¬ f u=0)∧f 0=0∧(f u).tdiv 10=f (u / 10)∧(f u).tmod 10=f (u % 10)∧(f u).natAbs=u:=by
  have hd:decM n.natAbs=Lib.decDigits n.natAbs:=by unfold decM;rw [if_neg (by omega)]
  by_cases h:n<0
  ·refine ⟨fun u => -(u:Int),[45],by simp only;omega,?_,by rw [if_pos h],fun u=>⟨fun hu=>by simp only;omega,rfl,by simp only;rw [Int.neg_tdiv];rfl,by simp only;rw [Int.neg_tmod];rfl,by simp only;omega⟩⟩
   unfold Lib.itoa;rw [if_pos h,hd];rfl
  ·refine ⟨fun u=>(u:Int),[],by simp only;omega,?_,by rw [if_neg h],fun u=>⟨fun hu=>by simp only;omega,rfl,rfl,rfl,by simp only;omega⟩⟩
   unfold Lib.itoa;rw [if_neg h,show n.toNat=n.natAbs by omega,hd];rfl
 obtain ⟨f,sg,hfn,hres,hsg,hf⟩:=key
 by_cases hneg:n<0
 all_goals
  first | rw [if_pos hneg] at hsg | rw [if_neg hneg] at hsg
  simp only [c_base_Decimal,h0,hneg,vZ,Int.reduceEq,Int.reduceNe,Int.reduceLT,Int.reduceLE,Nat.reduceEqDiff,Nat.reduceAdd,reduceIte,reduceCtorEq,Nat.reduceLT,Nat.reduceLeDiff,Nat.reduceShiftRight,Nat.reduceMod]
  refine W_loop (t:=.mk) (α:=PSigma fun p:Nat × List UInt8=>p.1≤n.natAbs∧decM p.1 ++ p.2=decM n.natAbs) (fun ⟨p,_⟩=>(envOf [(0,.int .i64 (f p.1)),(3,.str p.2),(4,.str sg)],stOf [])) (fun x=>x.1.1) ⟨(n.natAbs,[]),Nat.le_refl _,List.append_nil _⟩ ?_ (fun ⟨⟨u,sfx⟩,hu,hs⟩=>?_)
  ·refine weakX [] (of_decide_eq_true rfl) (of_decide_eq_true rfl) ?_
   (simp only [hfn,hsg,vcW,vZ,Int.reduceEq,Int.reduceNe,Int.reduceLT,Int.reduceLE,Nat.reduceEqDiff,Nat.reduceAdd,reduceIte,reduceCtorEq,Nat.reduceLT,Nat.reduceLeDiff,Nat.reduceShiftRight,Nat.reduceMod])
   (repeat' first | exact trivial | (with_reducible first | exact RnB.fxB (ints_fxB _) | rfl | refine And.intro ?_ ?_) | (with_reducible (first | refine RnB.bb ?_ | refine RnB.nb ?_);simp only [vcW,vZ,Int.reduceEq,Int.reduceNe,Int.reduceLT,Int.reduceLE,Nat.reduceEqDiff,Nat.reduceAdd,reduceIte,reduceCtorEq,Nat.reduceLT,Nat.reduceLeDiff,Nat.reduceShiftRight,Nat.reduceMod]) | (with_reducible first | refine RnB.ii ?_ | refine RnB.app ?_) | (with_reducible refine RnB.fxB ?_;simp only [vcW,vZ,Int.reduceEq,Int.reduceNe,Int.reduceLT,Int.reduceLE,Nat.reduceEqDiff,Nat.reduceAdd,reduceIte,reduceCtorEq,Nat.reduceLT,Nat.reduceLeDiff,Nat.reduceShiftRight,Nat.reduceMod]) | omega)
  ·dsimp only at hu hs ⊢
   obtain ⟨f1,f2,f3,f4,f5⟩:=hf u
   by_cases hz:u=0
   ·subst hz
    have hsl:sfx=decM n.natAbs:=by rw [← hs];rfl
    have hl:=hbig n.natAbs (Nat.le_refl _)
    rw [← hsl] at hl hres
    have hsgl:sg.length≤1:=by rw [hsg];decide
    rw [f2]
    simp only [hres,vZ,Int.reduceEq,Int.reduceNe,Int.reduceLT,Int.reduceLE,Nat.reduceEqDiff,Nat.reduceAdd,reduceIte,reduceCtorEq,Nat.reduceLT,Nat.reduceLeDiff,Nat.reduceShiftRight,Nat.reduceMod]
    omega
   ·have hst:=decM_step hz
    have hv:=f1 hz
    have f5':=(hf (u % 10)).2.2.2.2
    have hSz:=Size_s (f (u % 10)) (by unfold S63;omega)
    rw [f5'] at hSz
    have hw:IntKind.u8.wrap (48+((u % 10:Nat):Int))=48+((u % 10:Nat):Int):=u8_wrap (by omega)
    have hby:=bytesOf_1 (48+((u % 10:Nat):Int)) (by omega)
    have htn:(48+((u % 10:Nat):Int)).toNat=48+u % 10:=by omega
    rw [htn] at hby
    have hl2:=hbig n.natAbs (Nat.le_refl _)
    have hl3:sfx.length≤20:=by rw [← hs,List.length_append] at hl2;omega
    have f6:=(hf (u / 10)).2.2.2.2
    have hI:I64 (f (u / 10)):=by unfold I64;omega
    simp only [hv,f4,f3,vZ,Int.reduceEq,Int.reduceNe,Int.reduceLT,Int.reduceLE,Nat.reduceEqDiff,Nat.reduceAdd,reduceIte,reduceCtorEq,Nat.reduceLT,Nat.reduceLeDiff,Nat.reduceShiftRight,Nat.reduceMod]
    refine callS_of hSz ?_
    simp only [hw,hby,f3,vZ,Int.reduceEq,Int.reduceNe,Int.reduceLT,Int.reduceLE,Nat.reduceEqDiff,Nat.reduceAdd,reduceIte,reduceCtorEq,Nat.reduceLT,Nat.reduceLeDiff,Nat.reduceShiftRight,Nat.reduceMod]
    refine ⟨by unfold I64;omega,by omega,hI,⟨(u / 10,UInt8.ofNat (48+u % 10) :: sfx),by simp only;omega,by simp only;rw [← hs,hst,List.append_assoc];rfl⟩,by simp only;omega,?_⟩
    refine weakX [] (of_decide_eq_true rfl) (of_decide_eq_true rfl) ?_
    (simp only [vcW,vZ,Int.reduceEq,Int.reduceNe,Int.reduceLT,Int.reduceLE,Nat.reduceEqDiff,Nat.reduceAdd,reduceIte,reduceCtorEq,Nat.reduceLT,Nat.reduceLeDiff,Nat.reduceShiftRight,Nat.reduceMod])
    (repeat' first | exact trivial | (with_reducible first | exact RnB.fxB (ints_fxB _) | rfl | refine And.intro ?_ ?_) | (with_reducible (first | refine RnB.bb ?_ | refine RnB.nb ?_);simp only [vcW,vZ,Int.reduceEq,Int.reduceNe,Int.reduceLT,Int.reduceLE,Nat.reduceEqDiff,Nat.reduceAdd,reduceIte,reduceCtorEq,Nat.reduceLT,Nat.reduceLeDiff,Nat.reduceShiftRight,Nat.reduceMod]) | (with_reducible first | refine RnB.ii ?_ | refine RnB.app ?_) | (with_reducible refine RnB.fxB ?_;simp only [vcW,vZ,Int.reduceEq,Int.reduceNe,Int.reduceLT,Int.reduceLE,Nat.reduceEqDiff,Nat.reduceAdd,reduceIte,reduceCtorEq,Nat.reduceLT,Nat.reduceLeDiff,Nat.reduceShiftRight,Nat.reduceMod]) | omega)
end Go.Proofs.YtpaklfjlbocfcaaGreatDoor

/- Contracts: the reference cuts a string at a byte. By an AI agent;nothing here is trusted. -/
namespace Go.Proofs.YtpaklfjlbocfcaaGreatDoor
open Go.Av

theorem cut_split {s:List UInt8} {i j:Nat} (h1:j≤i) (h:i<s.length):s.drop j=(s.drop j).take (i - j) ++ s[i] :: s.drop (i+1):=by
 conv=>lhs;rw [← List.take_append_drop (i - j) (s.drop j)]
 rw [List.drop_drop,show j+(i - j)=i by omega,List.drop_eq_getElem_cons h]
theorem baseCut_s (s:List UInt8) (c:UInt8) (hs:s.length≤100000):Sound Tryz.prog 83 [.str s,.int .u8 c.toNat] (.sl (strs (Lin.cut c s))):=by
 refine sound_W f_base_Cut (Nat.le_of_ble_eq_true rfl) ?_
 have hmax:=maxLen_str
 have hnum:=Lin.cut_num c s
 simp only [c_base_Cut,vZ,Int.reduceEq,Int.reduceNe,Int.reduceLT,Int.reduceLE,Nat.reduceEqDiff,Nat.reduceAdd,reduceIte,reduceCtorEq,Nat.reduceLT,Nat.reduceLeDiff,Nat.reduceShiftRight,Nat.reduceMod]
 refine W_loop (t:=.mk) (α:=PSigma fun p:Nat × Nat × List (List UInt8)=>p.2.1≤p.1∧p.1≤s.length∧p.2.2 ++ Lin.cut c (s.drop p.2.1)=Lin.cut c s∧∀ x ∈ (s.drop p.2.1).take (p.1 - p.2.1),x ≠ c) (fun ⟨p,_⟩=>(envOf [(0,.str s),(1,.int .u8 c.toNat),(5,.buf 100 p.2.2.length),(6,.int .i64 p.2.1),(7,.int .i64 p.1)],stOf [(100,⟨9,1,strs p.2.2⟩)])) (fun p=>s.length - p.1.1) ⟨(0,0,[]),Nat.le_refl _,Nat.zero_le _,rfl,fun x hx=>by simp at hx⟩ ?_ (fun ⟨⟨i,j,out⟩,h1,h2,h3,h4⟩=>?_)
 ·refine weakX [(100,none)] (of_decide_eq_true rfl) (of_decide_eq_true rfl) ?_
  (simp only [vcW,vZ,Int.reduceEq,Int.reduceNe,Int.reduceLT,Int.reduceLE,Nat.reduceEqDiff,Nat.reduceAdd,reduceIte,reduceCtorEq,Nat.reduceLT,Nat.reduceLeDiff,Nat.reduceShiftRight,Nat.reduceMod])
  (repeat' first | exact trivial | (with_reducible first | exact RnB.fxB (ints_fxB _) | rfl | refine And.intro ?_ ?_) | (with_reducible (first | refine RnB.bb ?_ | refine RnB.nb ?_);simp only [vcW,vZ,Int.reduceEq,Int.reduceNe,Int.reduceLT,Int.reduceLE,Nat.reduceEqDiff,Nat.reduceAdd,reduceIte,reduceCtorEq,Nat.reduceLT,Nat.reduceLeDiff,Nat.reduceShiftRight,Nat.reduceMod]) | (with_reducible first | refine RnB.ii ?_ | refine RnB.app ?_) | (with_reducible refine RnB.fxB ?_;simp only [vcW,vZ,Int.reduceEq,Int.reduceNe,Int.reduceLT,Int.reduceLE,Nat.reduceEqDiff,Nat.reduceAdd,reduceIte,reduceCtorEq,Nat.reduceLT,Nat.reduceLeDiff,Nat.reduceShiftRight,Nat.reduceMod]) | omega)
  all_goals first | rfl | trace_state
 ·dsimp only at h1 h2 h3 h4 ⊢
  have hol:out.length≤s.length+1:=by rw [← h3] at hnum;simp at hnum;omega
  by_cases h':i<s.length
  ·have hc1:(i:Int)<s.length:=by omega
   have hgx:s[i]?=some s[i]:=List.getElem?_eq_getElem h'
   by_cases hx:s[i]=c
   ·have hd:s.drop j=(s.drop j).take (i - j) ++ c :: s.drop (i+1):=by rw [← hx];exact cut_split h1 h'
    have hcut:Lin.cut c (s.drop j)=(s.drop j).take (i - j) :: Lin.cut c (s.drop (i+1)):=by
     conv=>lhs;rw [hd]
     exact Lin.cut_app h4 _
    have h3':(out ++ [(s.drop j).take (i - j)]) ++ Lin.cut c (s.drop (i+1))=Lin.cut c s:=by rw [← h3,hcut];simp
    simp only [hc1,hgx,hx,strs_length,vZ,Int.reduceEq,Int.reduceNe,Int.reduceLT,Int.reduceLE,Nat.reduceEqDiff,Nat.reduceAdd,reduceIte,reduceCtorEq,Nat.reduceLT,Nat.reduceLeDiff,Nat.reduceShiftRight,Nat.reduceMod]
    refine ⟨by omega,⟨by omega,by omega,by omega⟩,⟨by omega,by omega⟩,by unfold I64;omega,by unfold I64;omega,⟨(i+1,i+1,out ++ [(s.drop j).take (i - j)]),Nat.le_refl _,h',h3',fun x hx=>by simp at hx⟩,by simp only;omega,?_⟩
    simp only
    rw [List.drop_take,strs_append,show (out ++ [(s.drop j).take (i - j)]).length=out.length+1 by simp]
    refine weakX [(100,some 25)] (of_decide_eq_true rfl) (of_decide_eq_true rfl) ?_
    (simp only [vcW,vZ,Int.reduceEq,Int.reduceNe,Int.reduceLT,Int.reduceLE,Nat.reduceEqDiff,Nat.reduceAdd,reduceIte,reduceCtorEq,Nat.reduceLT,Nat.reduceLeDiff,Nat.reduceShiftRight,Nat.reduceMod])
    (repeat' first | exact trivial | (with_reducible first | exact RnB.fxB (ints_fxB _) | rfl | refine And.intro ?_ ?_) | (with_reducible (first | refine RnB.bb ?_ | refine RnB.nb ?_);simp only [vcW,vZ,Int.reduceEq,Int.reduceNe,Int.reduceLT,Int.reduceLE,Nat.reduceEqDiff,Nat.reduceAdd,reduceIte,reduceCtorEq,Nat.reduceLT,Nat.reduceLeDiff,Nat.reduceShiftRight,Nat.reduceMod]) | (with_reducible first | refine RnB.ii ?_ | refine RnB.app ?_) | (with_reducible refine RnB.fxB ?_;simp only [vcW,vZ,Int.reduceEq,Int.reduceNe,Int.reduceLT,Int.reduceLE,Nat.reduceEqDiff,Nat.reduceAdd,reduceIte,reduceCtorEq,Nat.reduceLT,Nat.reduceLeDiff,Nat.reduceShiftRight,Nat.reduceMod]) | omega)
    all_goals first | rfl | exact RnB.fxB (by rw [List.all_append,strs_fxB];rfl) | trace_state
   ·have hx2:¬ ((s[i].toNat:Nat):Int)=(c.toNat:Nat):=fun h=>hx (UInt8.toNat_inj.1 (by omega))
    simp only [hc1,hgx,hx2,vZ,Int.reduceEq,Int.reduceNe,Int.reduceLT,Int.reduceLE,Nat.reduceEqDiff,Nat.reduceAdd,reduceIte,reduceCtorEq,Nat.reduceLT,Nat.reduceLeDiff,Nat.reduceShiftRight,Nat.reduceMod]
    refine ⟨by omega,by unfold I64;omega,⟨(i+1,j,out),by simp only;omega,h',h3,fun x hx'=>?_⟩,by simp only;omega,?_⟩
    ·simp only at hx'
     have hd:=cut_split h1 h'
     rw [hd,show i+1 - j=((s.drop j).take (i - j)).length+1 by rw [List.length_take,List.length_drop];omega,List.take_length_add_append] at hx'
     simp only [List.take_succ_cons,List.take_zero,List.mem_append,List.mem_singleton] at hx'
     rcases hx' with h | h
     ·exact h4 x h
     ·rw [h];exact hx
    ·refine weakX [(100,some 100)] (of_decide_eq_true rfl) (of_decide_eq_true rfl) ?_
     (simp only [vcW,vZ,Int.reduceEq,Int.reduceNe,Int.reduceLT,Int.reduceLE,Nat.reduceEqDiff,Nat.reduceAdd,reduceIte,reduceCtorEq,Nat.reduceLT,Nat.reduceLeDiff,Nat.reduceShiftRight,Nat.reduceMod])
     (repeat' first | exact trivial | (with_reducible first | exact RnB.fxB (ints_fxB _) | rfl | refine And.intro ?_ ?_) | (with_reducible (first | refine RnB.bb ?_ | refine RnB.nb ?_);simp only [vcW,vZ,Int.reduceEq,Int.reduceNe,Int.reduceLT,Int.reduceLE,Nat.reduceEqDiff,Nat.reduceAdd,reduceIte,reduceCtorEq,Nat.reduceLT,Nat.reduceLeDiff,Nat.reduceShiftRight,Nat.reduceMod]) | (with_reducible first | refine RnB.ii ?_ | refine RnB.app ?_) | (with_reducible refine RnB.fxB ?_;simp only [vcW,vZ,Int.reduceEq,Int.reduceNe,Int.reduceLT,Int.reduceLE,Nat.reduceEqDiff,Nat.reduceAdd,reduceIte,reduceCtorEq,Nat.reduceLT,Nat.reduceLeDiff,Nat.reduceShiftRight,Nat.reduceMod]) | omega)
     all_goals first | rfl | exact RnB.fxB (strs_fxB _) | trace_state
  ·have hil:i=s.length:=by omega
   subst hil
   have hc1:¬ (s.length:Int)<s.length:=by omega
   simp only [hc1,strs_length,vZ,Int.reduceEq,Int.reduceNe,Int.reduceLT,Int.reduceLE,Nat.reduceEqDiff,Nat.reduceAdd,reduceIte,reduceCtorEq,Nat.reduceLT,Nat.reduceLeDiff,Nat.reduceShiftRight,Nat.reduceMod]
   have hno:Lin.cut c (s.drop j)=[s.drop j]:=Lin.cut_no fun x hx=>h4 x (by rw [List.take_of_length_le (by rw [List.length_drop];omega)];exact hx)
   refine ⟨⟨by omega,by omega⟩,⟨by omega,by omega⟩,?_⟩
   have he:strs out ++ [AV.str (s.drop j)]=strs (Lin.cut c s):=by rw [← h3,hno,strs_append];rfl
   rw [he,borB_good _ _ _ _ _ (by rw [strs_length,← h3,hno];simp) (strs_fx _)]
end Go.Proofs.YtpaklfjlbocfcaaGreatDoor

/- Contracts: the reference's numbers of words. By an AI agent;nothing here is trusted. -/
namespace Go.Proofs.YtpaklfjlbocfcaaGreatDoor
open Go.Av

def numV:Option Int→AV
 | some n=>.tup [.int .i64 n,.bool true]
 | none=>.tup [.int .i64 0,.bool false]
theorem numW_form {k a:Nat} {w:List UInt8} (ha:(a=1∧w.head?=some 45)∨(a=0∧w.head? ≠ some 45)) :
  Lin.numW k w=if w.drop a=[]∨k<(w.drop a).length∨((w.drop a).head?=some 48∧1<w.length)∨(w.drop a).all Lin.isDig=false then none else some (if a=1 then -(Lin.val (w.drop a):Int) else Lin.val (w.drop a)):=by
 unfold Lin.numW Lin.numD
 rcases ha with ⟨rfl,h⟩ | ⟨rfl,h⟩
 ·rw [if_pos h]
  obtain ⟨r,rfl⟩:∃ r,w=45 :: r:=by
   cases w with
   | nil=>cases h
   | cons c r=>simp at h;exact ⟨r,by rw [h]⟩
  simp only [List.drop_one,List.tail_cons,List.length_cons,if_true]
  by_cases hr:r=[]
  ·subst hr;simp
  ·have:1<r.length+1:=by have:=List.length_pos_iff.2 hr;omega
   simp only [this,and_true]
   split <;> rfl
 ·rw [if_neg h]
  simp only [List.drop_zero,decide_eq_true_eq,Nat.zero_ne_one,if_false]
  split <;> rfl
set_option maxHeartbeats 1000000 in
theorem Number_s (w:List UInt8) (k:Nat) (hk:k≤18) (hw:w.length≤100000):Sound Tryz.prog 152 [.str w,.int .i64 k] (numV (Lin.numW k w)):=by
 refine sound_W f_base_Number (Nat.le_of_ble_eq_true rfl) ?_
 by_cases hl:w.length=0
 ·obtain rfl:w=[]:=List.eq_nil_of_length_eq_zero hl
  have:Lin.numW k []=none:=rfl
  rw [this]
  have hz:((0:Nat):Int)=0:=rfl
  have hz1:¬ (0:Int)<0:=by omega
  simp only [c_base_Number,numV,List.length_nil,hz,hz1,vZ,Int.reduceEq,Int.reduceNe,Int.reduceLT,Int.reduceLE,Nat.reduceEqDiff,Nat.reduceAdd,reduceIte,reduceCtorEq,Nat.reduceLT,Nat.reduceLeDiff,Nat.reduceShiftRight,Nat.reduceMod]
 have hpos:(0:Int)<w.length:=by omega
 have hne0:¬ (w.length:Int)=0:=by omega
 obtain ⟨c,hc0⟩:∃ c,w[0]?=some c:=⟨w[0],List.getElem?_eq_getElem (by omega)⟩
 have hhead:w.head?=some c:=by rw [← hc0];cases w <;> rfl
 have t0:(0:Int).toNat=0:=rfl
 have t1:(1:Int).toNat=1:=rfl
 have hpow:∀ j,j≤k→(10:Nat) ^ j≤1000000000000000000:=fun j hj=>by
  have:=Nat.pow_le_pow_right (n:=10) (by decide) (Nat.le_trans hj hk)
  simpa using this
 have key:∃ a:Nat,a≤1∧((c.toNat:Int)=45 ↔ a=1)∧Lin.numW k w=(if w.drop a=[]∨k<(w.drop a).length∨((w.drop a).head?=some 48∧1<w.length)∨(w.drop a).all Lin.isDig=false then none else some (if a=1 then -(Lin.val (w.drop a):Int) else Lin.val (w.drop a))):=by
  by_cases hc:c=45
  ·exact ⟨1,Nat.le_refl _,by rw [hc];simp,numW_form (.inl ⟨rfl,by rw [hhead,hc]⟩)⟩
  ·refine ⟨0,by omega,⟨fun h=>absurd (UInt8.toNat_inj.1 (by have:(45:UInt8).toNat=45:=(by decide);omega)) hc,fun h=>by cases h⟩,numW_form (.inr ⟨rfl,by rw [hhead];simp [hc]⟩)⟩
 obtain ⟨a,ha,hca,hf⟩:=key
 have hdl:(w.drop a).length=w.length - a:=List.length_drop
 have hnil:w.length=a→Lin.numW k w=none:=fun h=>by rw [hf,if_pos (.inl (List.eq_nil_of_length_eq_zero (by omega)))]
 have hlong:k<w.length - a→Lin.numW k w=none:=fun h=>by rw [hf,if_pos (.inr (.inl (by omega)))]
 have hz:∀ d,w[a]?=some d→d.toNat=48→1<w.length→Lin.numW k w=none:=fun d h1 h2 h3=>by
  rw [hf,if_pos (.inr (.inr (.inl ⟨by rw [List.head?_drop,h1,show d=48 from UInt8.toNat_inj.1 h2],h3⟩)))]
 have hall:∀ j,a+j<w.length→∀ x,w[a+j]?=some x→Lin.isDig x=false→Lin.numW k w=none:=fun j hj x hx hd=>by
  rw [hf,if_pos (.inr (.inr (.inr (List.all_eq_false.2 ⟨x,List.mem_iff_getElem?.2 ⟨j,by rw [List.getElem?_drop,hx]⟩,by simp [hd]⟩))))]
 have hgood:¬ w.length=a→¬ k<w.length - a→(∀ d,w[a]?=some d→¬ (d.toNat=48∧1<w.length))→(w.drop a).all Lin.isDig=true→Lin.numW k w=some (if a=1 then -(Lin.val (w.drop a):Int) else Lin.val (w.drop a)):=fun h1 h2 h3 h4=>by
  rw [hf,if_neg]
  rintro (g | g | g | g)
  ·rw [g] at hdl;simp at hdl;omega
  ·omega
  ·obtain ⟨g1,g2⟩:=g
   rw [List.head?_drop] at g1
   exact h3 48 g1 ⟨rfl,g2⟩
  ·rw [h4] at g;cases g
 by_cases hc:(c.toNat:Int)=45
 ·obtain rfl:=hca.1 hc
  simp only [c_base_Number,hpos,hne0,hc0,hc,t0,Int.sub_zero,vZ,Int.reduceEq,Int.reduceNe,Int.reduceLT,Int.reduceLE,Nat.reduceEqDiff,Nat.reduceAdd,reduceIte,reduceCtorEq,Nat.reduceLT,Nat.reduceLeDiff,Nat.reduceShiftRight,Nat.reduceMod]
  by_cases h1:w.length=1
  ·have h1':(w.length:Int)=1:=by omega
   rw [hnil h1]
   simp only [h1',numV,vZ,Int.reduceEq,Int.reduceNe,Int.reduceLT,Int.reduceLE,Nat.reduceEqDiff,Nat.reduceAdd,reduceIte,reduceCtorEq,Nat.reduceLT,Nat.reduceLeDiff,Nat.reduceShiftRight,Nat.reduceMod]
  have h1':¬ (w.length:Int)=1:=by omega
  simp only [h1',vZ,Int.reduceEq,Int.reduceNe,Int.reduceLT,Int.reduceLE,Nat.reduceEqDiff,Nat.reduceAdd,reduceIte,reduceCtorEq,Nat.reduceLT,Nat.reduceLeDiff,Nat.reduceShiftRight,Nat.reduceMod]
  refine ⟨by unfold I64;omega,?_⟩
  by_cases h2:k<w.length - 1
  ·have h2':(k:Int)<w.length - 1:=by omega
   rw [hlong h2]
   simp only [h2',numV,vZ,Int.reduceEq,Int.reduceNe,Int.reduceLT,Int.reduceLE,Nat.reduceEqDiff,Nat.reduceAdd,reduceIte,reduceCtorEq,Nat.reduceLT,Nat.reduceLeDiff,Nat.reduceShiftRight,Nat.reduceMod]
  have h2':¬ (k:Int)<w.length - 1:=by omega
  obtain ⟨d,hdd⟩:∃ d,w[1]?=some d:=⟨w[1],List.getElem?_eq_getElem (by omega)⟩
  have hgt:(1:Int)<w.length:=by omega
  simp only [h2',hdd,t1,vZ,Int.reduceEq,Int.reduceNe,Int.reduceLT,Int.reduceLE,Nat.reduceEqDiff,Nat.reduceAdd,reduceIte,reduceCtorEq,Nat.reduceLT,Nat.reduceLeDiff,Nat.reduceShiftRight,Nat.reduceMod]
  by_cases h3:d.toNat=48
  ·have h3':((d.toNat:Nat):Int)=48:=by omega
   rw [hz d hdd h3 (by omega)]
   simp only [h3',hgt,numV,vZ,Int.reduceEq,Int.reduceNe,Int.reduceLT,Int.reduceLE,Nat.reduceEqDiff,Nat.reduceAdd,reduceIte,reduceCtorEq,Nat.reduceLT,Nat.reduceLeDiff,Nat.reduceShiftRight,Nat.reduceMod]
  have h3':¬ ((d.toNat:Nat):Int)=48:=by omega
  have hgd:¬ (d.toNat=48∧1<w.length):=fun h=>h3 h.1
  simp only [h3',vZ,Int.reduceEq,Int.reduceNe,Int.reduceLT,Int.reduceLE,Nat.reduceEqDiff,Nat.reduceAdd,reduceIte,reduceCtorEq,Nat.reduceLT,Nat.reduceLeDiff,Nat.reduceShiftRight,Nat.reduceMod]
  refine W_loop (t:=.mk) (α:=PSigma fun j:Nat=>1+j≤w.length∧((w.drop 1).take j).all Lin.isDig=true) (fun ⟨j,_⟩=>(envOf [(0,.str w),(6,.int .i64 (1:Nat)),(7,.int .i64 (Lin.val ((w.drop 1).take j):Nat)),(8,.int .i64 ((1+j:Nat)))],stOf [])) (fun p=>w.length - p.1) ⟨0,by omega,rfl⟩ ?_ (fun ⟨j,hj,hd⟩=>?_)
  ·refine weakX [] (of_decide_eq_true rfl) (of_decide_eq_true rfl) ?_
   (simp only [vcW,vZ,Int.reduceEq,Int.reduceNe,Int.reduceLT,Int.reduceLE,Nat.reduceEqDiff,Nat.reduceAdd,reduceIte,reduceCtorEq,Nat.reduceLT,Nat.reduceLeDiff,Nat.reduceShiftRight,Nat.reduceMod])
   (repeat' first | exact trivial | (with_reducible first | exact RnB.fxB (ints_fxB _) | rfl | refine And.intro ?_ ?_) | (with_reducible (first | refine RnB.bb ?_ | refine RnB.nb ?_);simp only [vcW,vZ,Int.reduceEq,Int.reduceNe,Int.reduceLT,Int.reduceLE,Nat.reduceEqDiff,Nat.reduceAdd,reduceIte,reduceCtorEq,Nat.reduceLT,Nat.reduceLeDiff,Nat.reduceShiftRight,Nat.reduceMod]) | (with_reducible first | refine RnB.ii ?_ | refine RnB.app ?_) | (with_reducible refine RnB.fxB ?_;simp only [vcW,vZ,Int.reduceEq,Int.reduceNe,Int.reduceLT,Int.reduceLE,Nat.reduceEqDiff,Nat.reduceAdd,reduceIte,reduceCtorEq,Nat.reduceLT,Nat.reduceLeDiff,Nat.reduceShiftRight,Nat.reduceMod]) | omega)
   all_goals first | rfl | trace_state
  ·dsimp only at hj hd ⊢
   have hjk:((w.drop 1).take j).length=j:=by rw [List.length_take];omega
   have hv:=Lin.val_lt _ hd
   rw [hjk] at hv
   by_cases h':1+j<w.length
   ·have hc1:((1+j:Nat):Int)<w.length:=by omega
    have hgx:w[1+j]?=some w[1+j]:=List.getElem?_eq_getElem h'
    have htn:((1+j:Nat):Int).toNat=1+j:=by omega
    have hp1:=hpow (j+1) (by omega)
    rw [Nat.pow_succ] at hp1
    by_cases hx:Lin.isDig w[1+j]=true
    ·have hx':=hx
     unfold Lin.isDig at hx'
     simp only [Bool.and_eq_true,decide_eq_true_eq] at hx'
     have ht:(w.drop 1).take (j+1)=(w.drop 1).take j ++ [w[1+j]]:=by
      rw [List.take_succ_eq_append_getElem (by omega),List.getElem_drop]
     have hval:Lin.val ((w.drop 1).take (j+1))=Lin.val ((w.drop 1).take j) * 10+(w[1+j].toNat - 48):=by rw [ht,Lin.val_snoc]
     have hx1:¬ ((w[1+j].toNat:Nat):Int)<48:=by omega
     have hx2:¬ (57:Int)<((w[1+j].toNat:Nat):Int):=by omega
     have hwr:∀ q:Int,0≤q→q<256→IntKind.u8.wrap q=q:=fun q h1 h2=>u8_wrap ⟨h1,h2⟩
     have har:arith .u8 (((w[1+j].toNat:Nat):Int) - 48)=some (.int .u8 (((w[1+j].toNat:Nat):Int) - 48)):=by
      unfold arith;rw [hwr _ (by omega) (by omega),if_neg (by decide)]
     generalize Lin.val ((w.drop 1).take j)=v at *
     simp only [hc1,hgx,hx1,hx2,htn,har,vZ,Int.reduceEq,Int.reduceNe,Int.reduceLT,Int.reduceLE,Nat.reduceEqDiff,Nat.reduceAdd,reduceIte,reduceCtorEq,Nat.reduceLT,Nat.reduceLeDiff,Nat.reduceShiftRight,Nat.reduceMod]
     refine ⟨by omega,by omega,by unfold I64;omega,by omega,by unfold I64;omega,by unfold I64;omega,by unfold I64;omega,⟨j+1,by omega,by rw [ht,List.all_append,hd,List.all_cons,hx];rfl⟩,by simp only;omega,?_⟩
     simp only [Nat.zero_add,List.drop_zero]
     try simp only [Nat.zero_add,List.drop_zero] at hval
     rw [hval]
     refine weakX [] (of_decide_eq_true rfl) (of_decide_eq_true rfl) ?_
     (simp only [vcW,vZ,Int.reduceEq,Int.reduceNe,Int.reduceLT,Int.reduceLE,Nat.reduceEqDiff,Nat.reduceAdd,reduceIte,reduceCtorEq,Nat.reduceLT,Nat.reduceLeDiff,Nat.reduceShiftRight,Nat.reduceMod])
     (repeat' first | exact trivial | (with_reducible first | exact RnB.fxB (ints_fxB _) | rfl | refine And.intro ?_ ?_) | (with_reducible (first | refine RnB.bb ?_ | refine RnB.nb ?_);simp only [vcW,vZ,Int.reduceEq,Int.reduceNe,Int.reduceLT,Int.reduceLE,Nat.reduceEqDiff,Nat.reduceAdd,reduceIte,reduceCtorEq,Nat.reduceLT,Nat.reduceLeDiff,Nat.reduceShiftRight,Nat.reduceMod]) | (with_reducible first | refine RnB.ii ?_ | refine RnB.app ?_) | (with_reducible refine RnB.fxB ?_;simp only [vcW,vZ,Int.reduceEq,Int.reduceNe,Int.reduceLT,Int.reduceLE,Nat.reduceEqDiff,Nat.reduceAdd,reduceIte,reduceCtorEq,Nat.reduceLT,Nat.reduceLeDiff,Nat.reduceShiftRight,Nat.reduceMod]) | omega)
     all_goals first | rfl | (congr 1;omega) | (simp only [Nat.zero_add] at hx';omega)
    ·have hn:=hall j h' _ hgx (by simpa using hx)
     rw [hn]
     have hx':w[1+j].toNat<48∨57<w[1+j].toNat:=by
      unfold Lin.isDig at hx
      simp only [Bool.and_eq_true,decide_eq_true_eq] at hx
      omega
     by_cases hx1:((w[1+j].toNat:Nat):Int)<48
     ·simp only [hc1,hgx,hx1,htn,numV,vZ,Int.reduceEq,Int.reduceNe,Int.reduceLT,Int.reduceLE,Nat.reduceEqDiff,Nat.reduceAdd,reduceIte,reduceCtorEq,Nat.reduceLT,Nat.reduceLeDiff,Nat.reduceShiftRight,Nat.reduceMod]
      omega
     ·have hx2:(57:Int)<((w[1+j].toNat:Nat):Int):=by omega
      simp only [hc1,hgx,hx1,hx2,htn,numV,vZ,Int.reduceEq,Int.reduceNe,Int.reduceLT,Int.reduceLE,Nat.reduceEqDiff,Nat.reduceAdd,reduceIte,reduceCtorEq,Nat.reduceLT,Nat.reduceLeDiff,Nat.reduceShiftRight,Nat.reduceMod]
      omega
   ·have hjl:j=w.length - 1:=by omega
    have hc1:¬ ((1+j:Nat):Int)<w.length:=by omega
    have htk:(w.drop 1).take j=w.drop 1:=List.take_of_length_le (by omega)
    rw [htk] at hd hv ⊢
    have hr:=hgood (by omega) (by omega) (by intro d hd0;rw [hdd] at hd0;cases hd0;exact hgd) hd
    rw [hr]
    have hb:Lin.val (w.drop 1)<1000000000000000000:=Nat.lt_of_lt_of_le hv (hpow j (by omega))
    generalize Lin.val (w.drop 1)=v at *
    have hc10:¬ ((0:Nat):Int)=1:=by omega
    have hc11:((1:Nat):Int)=1:=rfl
    simp only [hc1,numV,hc10,hc11,vZ,Int.reduceEq,Int.reduceNe,Int.reduceLT,Int.reduceLE,Nat.reduceEqDiff,Nat.reduceAdd,reduceIte,reduceCtorEq,Nat.reduceLT,Nat.reduceLeDiff,Nat.reduceShiftRight,Nat.reduceMod]
    try (unfold I64;omega)
 ·obtain rfl:a=0:=by have:=mt hca.2 hc;omega
  simp only [c_base_Number,hpos,hne0,hc0,hc,t0,Int.sub_zero,vZ,Int.reduceEq,Int.reduceNe,Int.reduceLT,Int.reduceLE,Nat.reduceEqDiff,Nat.reduceAdd,reduceIte,reduceCtorEq,Nat.reduceLT,Nat.reduceLeDiff,Nat.reduceShiftRight,Nat.reduceMod]
  refine ⟨by unfold I64;omega,?_⟩
  by_cases h2:k<w.length - 0
  ·have h2':(k:Int)<w.length:=by omega
   rw [hlong h2]
   simp only [h2',numV,vZ,Int.reduceEq,Int.reduceNe,Int.reduceLT,Int.reduceLE,Nat.reduceEqDiff,Nat.reduceAdd,reduceIte,reduceCtorEq,Nat.reduceLT,Nat.reduceLeDiff,Nat.reduceShiftRight,Nat.reduceMod]
  have h2':¬ (k:Int)<w.length:=by omega
  have hdd:=hc0
  simp only [h2',hc0,t0,vZ,Int.reduceEq,Int.reduceNe,Int.reduceLT,Int.reduceLE,Nat.reduceEqDiff,Nat.reduceAdd,reduceIte,reduceCtorEq,Nat.reduceLT,Nat.reduceLeDiff,Nat.reduceShiftRight,Nat.reduceMod]
  by_cases h3:c.toNat=48
  ·have h3':((c.toNat:Nat):Int)=48:=by omega
   by_cases h4:1<w.length
   ·have h4':(1:Int)<w.length:=by omega
    rw [hz c hdd h3 h4]
    simp only [h3',h4',numV,vZ,Int.reduceEq,Int.reduceNe,Int.reduceLT,Int.reduceLE,Nat.reduceEqDiff,Nat.reduceAdd,reduceIte,reduceCtorEq,Nat.reduceLT,Nat.reduceLeDiff,Nat.reduceShiftRight,Nat.reduceMod]
   have h4':¬ (1:Int)<w.length:=by omega
   have hgd:¬ (c.toNat=48∧1<w.length):=fun h=>h4 h.2
   simp only [h3',h4',vZ,Int.reduceEq,Int.reduceNe,Int.reduceLT,Int.reduceLE,Nat.reduceEqDiff,Nat.reduceAdd,reduceIte,reduceCtorEq,Nat.reduceLT,Nat.reduceLeDiff,Nat.reduceShiftRight,Nat.reduceMod]
   refine W_loop (t:=.mk) (α:=PSigma fun j:Nat=>0+j≤w.length∧((w.drop 0).take j).all Lin.isDig=true) (fun ⟨j,_⟩=>(envOf [(0,.str w),(6,.int .i64 (0:Nat)),(7,.int .i64 (Lin.val ((w.drop 0).take j):Nat)),(8,.int .i64 ((0+j:Nat)))],stOf [])) (fun p=>w.length - p.1) ⟨0,by omega,rfl⟩ ?_ (fun ⟨j,hj,hd⟩=>?_)
   ·refine weakX [] (of_decide_eq_true rfl) (of_decide_eq_true rfl) ?_
    (simp only [vcW,vZ,Int.reduceEq,Int.reduceNe,Int.reduceLT,Int.reduceLE,Nat.reduceEqDiff,Nat.reduceAdd,reduceIte,reduceCtorEq,Nat.reduceLT,Nat.reduceLeDiff,Nat.reduceShiftRight,Nat.reduceMod])
    (repeat' first | exact trivial | (with_reducible first | exact RnB.fxB (ints_fxB _) | rfl | refine And.intro ?_ ?_) | (with_reducible (first | refine RnB.bb ?_ | refine RnB.nb ?_);simp only [vcW,vZ,Int.reduceEq,Int.reduceNe,Int.reduceLT,Int.reduceLE,Nat.reduceEqDiff,Nat.reduceAdd,reduceIte,reduceCtorEq,Nat.reduceLT,Nat.reduceLeDiff,Nat.reduceShiftRight,Nat.reduceMod]) | (with_reducible first | refine RnB.ii ?_ | refine RnB.app ?_) | (with_reducible refine RnB.fxB ?_;simp only [vcW,vZ,Int.reduceEq,Int.reduceNe,Int.reduceLT,Int.reduceLE,Nat.reduceEqDiff,Nat.reduceAdd,reduceIte,reduceCtorEq,Nat.reduceLT,Nat.reduceLeDiff,Nat.reduceShiftRight,Nat.reduceMod]) | omega)
    all_goals first | rfl | trace_state
   ·dsimp only at hj hd ⊢
    have hjk:((w.drop 0).take j).length=j:=by rw [List.length_take];omega
    have hv:=Lin.val_lt _ hd
    rw [hjk] at hv
    by_cases h':0+j<w.length
    ·have hc1:((0+j:Nat):Int)<w.length:=by omega
     have hgx:w[0+j]?=some w[0+j]:=List.getElem?_eq_getElem h'
     have htn:((0+j:Nat):Int).toNat=0+j:=by omega
     have hp1:=hpow (j+1) (by omega)
     rw [Nat.pow_succ] at hp1
     by_cases hx:Lin.isDig w[0+j]=true
     ·have hx':=hx
      unfold Lin.isDig at hx'
      simp only [Bool.and_eq_true,decide_eq_true_eq] at hx'
      have ht:(w.drop 0).take (j+1)=(w.drop 0).take j ++ [w[0+j]]:=by
       rw [List.take_succ_eq_append_getElem (by omega),List.getElem_drop]
      have hval:Lin.val ((w.drop 0).take (j+1))=Lin.val ((w.drop 0).take j) * 10+(w[0+j].toNat - 48):=by rw [ht,Lin.val_snoc]
      have hx1:¬ ((w[0+j].toNat:Nat):Int)<48:=by omega
      have hx2:¬ (57:Int)<((w[0+j].toNat:Nat):Int):=by omega
      have hwr:∀ q:Int,0≤q→q<256→IntKind.u8.wrap q=q:=fun q h1 h2=>u8_wrap ⟨h1,h2⟩
      have har:arith .u8 (((w[0+j].toNat:Nat):Int) - 48)=some (.int .u8 (((w[0+j].toNat:Nat):Int) - 48)):=by
       unfold arith;rw [hwr _ (by omega) (by omega),if_neg (by decide)]
      generalize Lin.val ((w.drop 0).take j)=v at *
      simp only [hc1,hgx,hx1,hx2,htn,har,vZ,Int.reduceEq,Int.reduceNe,Int.reduceLT,Int.reduceLE,Nat.reduceEqDiff,Nat.reduceAdd,reduceIte,reduceCtorEq,Nat.reduceLT,Nat.reduceLeDiff,Nat.reduceShiftRight,Nat.reduceMod]
      refine ⟨by omega,by omega,by unfold I64;omega,by omega,by unfold I64;omega,by unfold I64;omega,by unfold I64;omega,⟨j+1,by omega,by rw [ht,List.all_append,hd,List.all_cons,hx];rfl⟩,by simp only;omega,?_⟩
      simp only [Nat.zero_add,List.drop_zero]
      try simp only [Nat.zero_add,List.drop_zero] at hval
      rw [hval]
      refine weakX [] (of_decide_eq_true rfl) (of_decide_eq_true rfl) ?_
      (simp only [vcW,vZ,Int.reduceEq,Int.reduceNe,Int.reduceLT,Int.reduceLE,Nat.reduceEqDiff,Nat.reduceAdd,reduceIte,reduceCtorEq,Nat.reduceLT,Nat.reduceLeDiff,Nat.reduceShiftRight,Nat.reduceMod])
      (repeat' first | exact trivial | (with_reducible first | exact RnB.fxB (ints_fxB _) | rfl | refine And.intro ?_ ?_) | (with_reducible (first | refine RnB.bb ?_ | refine RnB.nb ?_);simp only [vcW,vZ,Int.reduceEq,Int.reduceNe,Int.reduceLT,Int.reduceLE,Nat.reduceEqDiff,Nat.reduceAdd,reduceIte,reduceCtorEq,Nat.reduceLT,Nat.reduceLeDiff,Nat.reduceShiftRight,Nat.reduceMod]) | (with_reducible first | refine RnB.ii ?_ | refine RnB.app ?_) | (with_reducible refine RnB.fxB ?_;simp only [vcW,vZ,Int.reduceEq,Int.reduceNe,Int.reduceLT,Int.reduceLE,Nat.reduceEqDiff,Nat.reduceAdd,reduceIte,reduceCtorEq,Nat.reduceLT,Nat.reduceLeDiff,Nat.reduceShiftRight,Nat.reduceMod]) | omega)
      all_goals first | rfl | (congr 1;omega) | (simp only [Nat.zero_add] at hx';omega)
     ·have hn:=hall j h' _ hgx (by simpa using hx)
      rw [hn]
      have hx':w[0+j].toNat<48∨57<w[0+j].toNat:=by
       unfold Lin.isDig at hx
       simp only [Bool.and_eq_true,decide_eq_true_eq] at hx
       omega
      by_cases hx1:((w[0+j].toNat:Nat):Int)<48
      ·simp only [hc1,hgx,hx1,htn,numV,vZ,Int.reduceEq,Int.reduceNe,Int.reduceLT,Int.reduceLE,Nat.reduceEqDiff,Nat.reduceAdd,reduceIte,reduceCtorEq,Nat.reduceLT,Nat.reduceLeDiff,Nat.reduceShiftRight,Nat.reduceMod]
       omega
      ·have hx2:(57:Int)<((w[0+j].toNat:Nat):Int):=by omega
       simp only [hc1,hgx,hx1,hx2,htn,numV,vZ,Int.reduceEq,Int.reduceNe,Int.reduceLT,Int.reduceLE,Nat.reduceEqDiff,Nat.reduceAdd,reduceIte,reduceCtorEq,Nat.reduceLT,Nat.reduceLeDiff,Nat.reduceShiftRight,Nat.reduceMod]
       omega
    ·have hjl:j=w.length - 0:=by omega
     have hc1:¬ ((0+j:Nat):Int)<w.length:=by omega
     have htk:(w.drop 0).take j=w.drop 0:=List.take_of_length_le (by omega)
     rw [htk] at hd hv ⊢
     have hr:=hgood (by omega) (by omega) (by intro d hd0;rw [hdd] at hd0;cases hd0;exact hgd) hd
     rw [hr]
     have hb:Lin.val (w.drop 0)<1000000000000000000:=Nat.lt_of_lt_of_le hv (hpow j (by omega))
     generalize Lin.val (w.drop 0)=v at *
     have hc10:¬ ((0:Nat):Int)=1:=by omega
     have hc11:((1:Nat):Int)=1:=rfl
     simp only [hc1,numV,hc10,hc11,vZ,Int.reduceEq,Int.reduceNe,Int.reduceLT,Int.reduceLE,Nat.reduceEqDiff,Nat.reduceAdd,reduceIte,reduceCtorEq,Nat.reduceLT,Nat.reduceLeDiff,Nat.reduceShiftRight,Nat.reduceMod]
     try (unfold I64;omega)

  have h3':¬ ((c.toNat:Nat):Int)=48:=by omega
  have hgd:¬ (c.toNat=48∧1<w.length):=fun h=>h3 h.1
  simp only [h3',vZ,Int.reduceEq,Int.reduceNe,Int.reduceLT,Int.reduceLE,Nat.reduceEqDiff,Nat.reduceAdd,reduceIte,reduceCtorEq,Nat.reduceLT,Nat.reduceLeDiff,Nat.reduceShiftRight,Nat.reduceMod]
  refine W_loop (t:=.mk) (α:=PSigma fun j:Nat=>0+j≤w.length∧((w.drop 0).take j).all Lin.isDig=true) (fun ⟨j,_⟩=>(envOf [(0,.str w),(6,.int .i64 (0:Nat)),(7,.int .i64 (Lin.val ((w.drop 0).take j):Nat)),(8,.int .i64 ((0+j:Nat)))],stOf [])) (fun p=>w.length - p.1) ⟨0,by omega,rfl⟩ ?_ (fun ⟨j,hj,hd⟩=>?_)
  ·refine weakX [] (of_decide_eq_true rfl) (of_decide_eq_true rfl) ?_
   (simp only [vcW,vZ,Int.reduceEq,Int.reduceNe,Int.reduceLT,Int.reduceLE,Nat.reduceEqDiff,Nat.reduceAdd,reduceIte,reduceCtorEq,Nat.reduceLT,Nat.reduceLeDiff,Nat.reduceShiftRight,Nat.reduceMod])
   (repeat' first | exact trivial | (with_reducible first | exact RnB.fxB (ints_fxB _) | rfl | refine And.intro ?_ ?_) | (with_reducible (first | refine RnB.bb ?_ | refine RnB.nb ?_);simp only [vcW,vZ,Int.reduceEq,Int.reduceNe,Int.reduceLT,Int.reduceLE,Nat.reduceEqDiff,Nat.reduceAdd,reduceIte,reduceCtorEq,Nat.reduceLT,Nat.reduceLeDiff,Nat.reduceShiftRight,Nat.reduceMod]) | (with_reducible first | refine RnB.ii ?_ | refine RnB.app ?_) | (with_reducible refine RnB.fxB ?_;simp only [vcW,vZ,Int.reduceEq,Int.reduceNe,Int.reduceLT,Int.reduceLE,Nat.reduceEqDiff,Nat.reduceAdd,reduceIte,reduceCtorEq,Nat.reduceLT,Nat.reduceLeDiff,Nat.reduceShiftRight,Nat.reduceMod]) | omega)
   all_goals first | rfl | trace_state
  ·dsimp only at hj hd ⊢
   have hjk:((w.drop 0).take j).length=j:=by rw [List.length_take];omega
   have hv:=Lin.val_lt _ hd
   rw [hjk] at hv
   by_cases h':0+j<w.length
   ·have hc1:((0+j:Nat):Int)<w.length:=by omega
    have hgx:w[0+j]?=some w[0+j]:=List.getElem?_eq_getElem h'
    have htn:((0+j:Nat):Int).toNat=0+j:=by omega
    have hp1:=hpow (j+1) (by omega)
    rw [Nat.pow_succ] at hp1
    by_cases hx:Lin.isDig w[0+j]=true
    ·have hx':=hx
     unfold Lin.isDig at hx'
     simp only [Bool.and_eq_true,decide_eq_true_eq] at hx'
     have ht:(w.drop 0).take (j+1)=(w.drop 0).take j ++ [w[0+j]]:=by
      rw [List.take_succ_eq_append_getElem (by omega),List.getElem_drop]
     have hval:Lin.val ((w.drop 0).take (j+1))=Lin.val ((w.drop 0).take j) * 10+(w[0+j].toNat - 48):=by rw [ht,Lin.val_snoc]
     have hx1:¬ ((w[0+j].toNat:Nat):Int)<48:=by omega
     have hx2:¬ (57:Int)<((w[0+j].toNat:Nat):Int):=by omega
     have hwr:∀ q:Int,0≤q→q<256→IntKind.u8.wrap q=q:=fun q h1 h2=>u8_wrap ⟨h1,h2⟩
     have har:arith .u8 (((w[0+j].toNat:Nat):Int) - 48)=some (.int .u8 (((w[0+j].toNat:Nat):Int) - 48)):=by
      unfold arith;rw [hwr _ (by omega) (by omega),if_neg (by decide)]
     generalize Lin.val ((w.drop 0).take j)=v at *
     simp only [hc1,hgx,hx1,hx2,htn,har,vZ,Int.reduceEq,Int.reduceNe,Int.reduceLT,Int.reduceLE,Nat.reduceEqDiff,Nat.reduceAdd,reduceIte,reduceCtorEq,Nat.reduceLT,Nat.reduceLeDiff,Nat.reduceShiftRight,Nat.reduceMod]
     refine ⟨by omega,by omega,by unfold I64;omega,by omega,by unfold I64;omega,by unfold I64;omega,by unfold I64;omega,⟨j+1,by omega,by rw [ht,List.all_append,hd,List.all_cons,hx];rfl⟩,by simp only;omega,?_⟩
     simp only [Nat.zero_add,List.drop_zero]
     try simp only [Nat.zero_add,List.drop_zero] at hval
     rw [hval]
     refine weakX [] (of_decide_eq_true rfl) (of_decide_eq_true rfl) ?_
     (simp only [vcW,vZ,Int.reduceEq,Int.reduceNe,Int.reduceLT,Int.reduceLE,Nat.reduceEqDiff,Nat.reduceAdd,reduceIte,reduceCtorEq,Nat.reduceLT,Nat.reduceLeDiff,Nat.reduceShiftRight,Nat.reduceMod])
     (repeat' first | exact trivial | (with_reducible first | exact RnB.fxB (ints_fxB _) | rfl | refine And.intro ?_ ?_) | (with_reducible (first | refine RnB.bb ?_ | refine RnB.nb ?_);simp only [vcW,vZ,Int.reduceEq,Int.reduceNe,Int.reduceLT,Int.reduceLE,Nat.reduceEqDiff,Nat.reduceAdd,reduceIte,reduceCtorEq,Nat.reduceLT,Nat.reduceLeDiff,Nat.reduceShiftRight,Nat.reduceMod]) | (with_reducible first | refine RnB.ii ?_ | refine RnB.app ?_) | (with_reducible refine RnB.fxB ?_;simp only [vcW,vZ,Int.reduceEq,Int.reduceNe,Int.reduceLT,Int.reduceLE,Nat.reduceEqDiff,Nat.reduceAdd,reduceIte,reduceCtorEq,Nat.reduceLT,Nat.reduceLeDiff,Nat.reduceShiftRight,Nat.reduceMod]) | omega)
     all_goals first | rfl | (congr 1;omega) | (simp only [Nat.zero_add] at hx';omega)
    ·have hn:=hall j h' _ hgx (by simpa using hx)
     rw [hn]
     have hx':w[0+j].toNat<48∨57<w[0+j].toNat:=by
      unfold Lin.isDig at hx
      simp only [Bool.and_eq_true,decide_eq_true_eq] at hx
      omega
     by_cases hx1:((w[0+j].toNat:Nat):Int)<48
     ·simp only [hc1,hgx,hx1,htn,numV,vZ,Int.reduceEq,Int.reduceNe,Int.reduceLT,Int.reduceLE,Nat.reduceEqDiff,Nat.reduceAdd,reduceIte,reduceCtorEq,Nat.reduceLT,Nat.reduceLeDiff,Nat.reduceShiftRight,Nat.reduceMod]
      omega
     ·have hx2:(57:Int)<((w[0+j].toNat:Nat):Int):=by omega
      simp only [hc1,hgx,hx1,hx2,htn,numV,vZ,Int.reduceEq,Int.reduceNe,Int.reduceLT,Int.reduceLE,Nat.reduceEqDiff,Nat.reduceAdd,reduceIte,reduceCtorEq,Nat.reduceLT,Nat.reduceLeDiff,Nat.reduceShiftRight,Nat.reduceMod]
      omega
   ·have hjl:j=w.length - 0:=by omega
    have hc1:¬ ((0+j:Nat):Int)<w.length:=by omega
    have htk:(w.drop 0).take j=w.drop 0:=List.take_of_length_le (by omega)
    rw [htk] at hd hv ⊢
    have hr:=hgood (by omega) (by omega) (by intro d hd0;rw [hdd] at hd0;cases hd0;exact hgd) hd
    rw [hr]
    have hb:Lin.val (w.drop 0)<1000000000000000000:=Nat.lt_of_lt_of_le hv (hpow j (by omega))
    generalize Lin.val (w.drop 0)=v at *
    have hc10:¬ ((0:Nat):Int)=1:=by omega
    have hc11:((1:Nat):Int)=1:=rfl
    simp only [hc1,numV,hc10,hc11,vZ,Int.reduceEq,Int.reduceNe,Int.reduceLT,Int.reduceLE,Nat.reduceEqDiff,Nat.reduceAdd,reduceIte,reduceCtorEq,Nat.reduceLT,Nat.reduceLeDiff,Nat.reduceShiftRight,Nat.reduceMod]
    try (unfold I64;omega)
end Go.Proofs.YtpaklfjlbocfcaaGreatDoor

/- Contracts of the chapter of pulses: small functions. By an AI agent;nothing here is trusted. -/
namespace Go.Proofs.YtpaklfjlbocfcaaGreatDoor
open Go.Av

theorem within_s (n lo hi:Int):Sound Tryz.prog 118 [.int .i64 n,.int .i64 lo,.int .i64 hi] (.bool (decide (lo≤n∧n≤hi))):=by
 refine sound_W f_pulse_within (Nat.le_of_ble_eq_true rfl) ?_
 simp only [c_pulse_within,vcC,Int.reduceEq,Int.reduceNe,Int.reduceLT,Int.reduceLE,Nat.reduceEqDiff,Nat.reduceAdd,reduceIte,reduceCtorEq,Nat.reduceLT,Nat.reduceLeDiff,eq_self,vcP]
 refine brB_split (fun h=>?_) (fun h=>?_) <;> simp only [h,vcC,Int.reduceEq,Int.reduceNe,Int.reduceLT,Int.reduceLE,Nat.reduceEqDiff,Nat.reduceAdd,reduceIte,reduceCtorEq,Nat.reduceLT,Nat.reduceLeDiff,eq_self,vcP]
 ·exact bool_eq (by simp at h;simp [h])
 ·simp at h;simp;omega

theorem unless_s (ok:Bool) (e:Int):Sound Tryz.prog 121 [.bool ok,.int .i64 e] (.int .i64 (if ok then 0 else e)):=by
 refine sound_W f_pulse_unless (Nat.le_of_ble_eq_true rfl) ?_
 simp only [c_pulse_unless,vcC,Int.reduceEq,Int.reduceNe,Int.reduceLT,Int.reduceLE,Nat.reduceEqDiff,Nat.reduceAdd,reduceIte,reduceCtorEq,Nat.reduceLT,Nat.reduceLeDiff,eq_self,vcP]
 refine brB_split (fun h=>?_) (fun h=>?_) <;> subst h <;> simp only [vcC,Int.reduceEq,Int.reduceNe,Int.reduceLT,Int.reduceLE,Nat.reduceEqDiff,Nat.reduceAdd,reduceIte,reduceCtorEq,Nat.reduceLT,Nat.reduceLeDiff,eq_self,vcP]

theorem first_s (l:List Int) (hl:l.length<4000000000000000000):Sound Tryz.prog 119 [.sl (ints l)] (.int .i64 (firstErr l)):=by
 refine sound_W f_pulse_first (Nat.le_of_ble_eq_true rfl) ?_
 simp only [c_pulse_first,vcC,Int.reduceEq,Int.reduceNe,Int.reduceLT,Int.reduceLE,Nat.reduceEqDiff,Nat.reduceAdd,reduceIte,reduceCtorEq,Nat.reduceLT,Nat.reduceLeDiff,eq_self,vcP]
 refine W_loop (α:=PSigma fun i:Nat=>i≤l.length∧∀ x ∈ l.take i,x=0) (fun i=>(envOf [(5,.sl (ints l)),(6,.int .i64 l.length),(7,.int .i64 i.1)],noStore)) (fun i=>l.length - i.1) ⟨0,by simp⟩ (weakE _ ?_) (fun ⟨i,hi,hn⟩=>?_)
 ·simp only [vcC,Int.reduceEq,Int.reduceNe,Int.reduceLT,Int.reduceLE,Nat.reduceEqDiff,Nat.reduceAdd,reduceIte,reduceCtorEq,Nat.reduceLT,Nat.reduceLeDiff,eq_self,vcP];rfl
 ·simp only [vcC,Int.reduceEq,Int.reduceNe,Int.reduceLT,Int.reduceLE,Nat.reduceEqDiff,Nat.reduceAdd,reduceIte,reduceCtorEq,Nat.reduceLT,Nat.reduceLeDiff,eq_self,vcP]
  refine brB_split (fun h=>?_) (fun h=>?_)
  ·have h':i<l.length:=by (simp only [decide_eq_true_eq,decide_eq_false_iff_not,Bool.not_true,I64,Bool.not_eq_true',Bool.not_eq_false',bne_iff_ne,beq_iff_eq,ne_eq] at *;omega)
   simp only [ints_get l i h',vcC,Int.reduceEq,Int.reduceNe,Int.reduceLT,Int.reduceLE,Nat.reduceEqDiff,Nat.reduceAdd,reduceIte,reduceCtorEq,Nat.reduceLT,Nat.reduceLeDiff,eq_self,vcP]
   refine ⟨by omega,?_⟩
   refine brB_split (fun h=>?_) (fun h=>?_)
   ·simp only [vcC,Int.reduceEq,Int.reduceNe,Int.reduceLT,Int.reduceLE,Nat.reduceEqDiff,Nat.reduceAdd,reduceIte,reduceCtorEq,Nat.reduceLT,Nat.reduceLeDiff,eq_self,vcP]
    have h0:l[i] ≠ 0:=by simpa using h
    have hs:l.find? (· ≠ 0)=some l[i]:=by
     rw [List.find?_eq_some_iff_getElem]
     exact ⟨by simpa using h0,i,h',rfl,fun j hj=>by simp [hn l[j] (by rw [List.mem_take_iff_getElem];exact ⟨j,by omega,rfl⟩)]⟩
    unfold firstErr
    rw [hs];rfl
   ·simp only [vcC,Int.reduceEq,Int.reduceNe,Int.reduceLT,Int.reduceLE,Nat.reduceEqDiff,Nat.reduceAdd,reduceIte,reduceCtorEq,Nat.reduceLT,Nat.reduceLeDiff,eq_self,vcP]
    refine ⟨by (simp only [decide_eq_true_eq,decide_eq_false_iff_not,Bool.not_true,I64,Bool.not_eq_true',Bool.not_eq_false',bne_iff_ne,beq_iff_eq,ne_eq] at *;omega),⟨i+1,by omega,?_⟩,by simp only;omega,weakE _ ?_⟩
    ·rw [List.take_succ_eq_append_getElem h']
     intro x hx
     rcases List.mem_append.1 hx with hx | hx
     ·exact hn x hx
     ·simp at hx h;rw [hx,h]
    ·simp only [vcC,Int.reduceEq,Int.reduceNe,Int.reduceLT,Int.reduceLE,Nat.reduceEqDiff,Nat.reduceAdd,reduceIte,reduceCtorEq,Nat.reduceLT,Nat.reduceLeDiff,eq_self,vcP];simp
  ·simp only [vcC,Int.reduceEq,Int.reduceNe,Int.reduceLT,Int.reduceLE,Nat.reduceEqDiff,Nat.reduceAdd,reduceIte,reduceCtorEq,Nat.reduceLT,Nat.reduceLeDiff,eq_self,vcP]
   have:i=l.length:=by (simp only [decide_eq_true_eq,decide_eq_false_iff_not,Bool.not_true,I64,Bool.not_eq_true',Bool.not_eq_false',bne_iff_ne,beq_iff_eq,ne_eq] at *;omega)
   subst this
   unfold firstErr
   rw [List.take_length] at hn
   rw [List.find?_eq_none.2 (fun x hx=>by simp [hn x hx])]
   rfl

theorem first2_s (a b:Int):Sound Tryz.prog 119 [.sl [.int .i64 a,.int .i64 b]] (.int .i64 (if a ≠ 0 then a else b)):=by
 have h:=first_s [a,b] (by simp)
 have e:firstErr [a,b]=if a ≠ 0 then a else b:=by
  unfold firstErr
  by_cases ha:a=0 <;> by_cases hb:b=0 <;> simp [ha,hb]
 rw [e] at h
 exact h
theorem first3_s (a b c:Int):Sound Tryz.prog 119 [.sl [.int .i64 a,.int .i64 b,.int .i64 c]] (.int .i64 (if a ≠ 0 then a else if b ≠ 0 then b else c)):=by
 have h:=first_s [a,b,c] (by simp)
 have e:firstErr [a,b,c]=if a ≠ 0 then a else if b ≠ 0 then b else c:=by
  unfold firstErr
  by_cases ha:a=0 <;> by_cases hb:b=0 <;> by_cases hc:c=0 <;> simp [ha,hb,hc]
 rw [e] at h
 exact h
end Go.Proofs.YtpaklfjlbocfcaaGreatDoor

/- Samples and droops,in plain Lean. By an AI agent;nothing here is trusted. -/
namespace Go.Proofs.YtpaklfjlbocfcaaGreatDoor
open Go.Av

def smp (n:Int):Bool:=decide (-10000≤n∧n≤10000)
def smE (l:List Int):Int:=if l.length=0 then 10 else if 24<l.length then 8 else if l.all smp then 0 else 2
def smI (l:List Int):Int:=if smE l=2 then idxOf l (fun n=>!smp n) else 0
theorem smE_ok {l:List Int} (h:smE l=0):1≤l.length∧l.length≤24∧∀ x ∈ l, -10000≤x∧x≤10000:=by
 unfold smE at h
 split at h
 ·cases h
 ·split at h
  ·cases h
  ·split at h
   ·rename_i h1 h2 h3
    exact ⟨by omega,by omega,fun x hx=>by have:=List.all_eq_true.1 h3 x hx;simpa [smp] using this⟩
   ·cases h
structure Droop where
 leak:Int
 div:Int
def Droop.av (d:Droop):AV:=.agg [.int .i64 d.leak,.int .i64 d.div]
def Droop.ok (d:Droop):Prop:=(0≤d.leak∧d.leak≤1000)∧(1≤d.div∧d.div≤10000)
instance (d:Droop):Decidable d.ok:=by unfold Droop.ok;exact inferInstance
def Droop.e (d:Droop):Int:=if d.ok then 0 else 2

end Go.Proofs.YtpaklfjlbocfcaaGreatDoor

/- Dead times and afterpulses,in plain Lean. By an AI agent;nothing here is trusted. -/
namespace Go.Proofs.YtpaklfjlbocfcaaGreatDoor
open Go.Av

def kp (dead:Int) (l:List Int):Nat→List Int
 | 0=>[]
 | i+1=>if kp dead l i=[]∨dead<l.getD i 0 - (kp dead l i).getLastD 0 then kp dead l i ++ [l.getD i 0] else kp dead l i
def kept (dead:Int) (l:List Int):List Int:=kp dead l l.length
theorem getD_at {l:List Int} {i:Nat} (h:i<l.length):l.getD i 0=l[i]:=by simp [List.getD,List.getElem?_eq_getElem h]
end Go.Proofs.YtpaklfjlbocfcaaGreatDoor

/- Hits: runs of samples from a threshold on,in plain Lean. By an AI agent;nothing here is trusted. -/
namespace Go.Proofs.YtpaklfjlbocfcaaGreatDoor
open Go.Av

end Go.Proofs.YtpaklfjlbocfcaaGreatDoor

/- Lowest terms,gains and charges,in plain Lean. By an AI agent;nothing here is trusted. -/
namespace Go.Proofs.YtpaklfjlbocfcaaGreatDoor
open Go.Av

end Go.Proofs.YtpaklfjlbocfcaaGreatDoor

/- Contracts: samples,times,dead times. By an AI agent;nothing here is trusted. -/
namespace Go.Proofs.YtpaklfjlbocfcaaGreatDoor
open Go.Av

theorem isSized_s (n most:Int) (hm:S63 most):Sound Tryz.prog 171 [.int .i64 n,.int .i64 most] (.bool (decide (-most≤n∧n≤most))):=by
 refine sound_W f_pulse_isSized (Nat.le_of_ble_eq_true rfl) ?_
 unfold S63 at hm
 simp only [c_pulse_isSized,vZ,Int.reduceEq,Int.reduceNe,Int.reduceLT,Int.reduceLE,Nat.reduceEqDiff,Nat.reduceAdd,reduceIte,reduceCtorEq,Nat.reduceLT,Nat.reduceLeDiff,Nat.reduceShiftRight,Nat.reduceMod]
 refine ⟨by unfold I64;omega,?_⟩
 refine callS_of (within_s _ _ _) ?_
 simp only [vZ,Int.reduceEq,Int.reduceNe,Int.reduceLT,Int.reduceLE,Nat.reduceEqDiff,Nat.reduceAdd,reduceIte,reduceCtorEq,Nat.reduceLT,Nat.reduceLeDiff,Nat.reduceShiftRight,Nat.reduceMod]
theorem isSample_s (n:Int):Sound Tryz.prog 140 [.int .i64 n] (.bool (smp n)):=by
 refine sound_W f_pulse_isSample (Nat.le_of_ble_eq_true rfl) ?_
 simp only [c_pulse_isSample,vZ,Int.reduceEq,Int.reduceNe,Int.reduceLT,Int.reduceLE,Nat.reduceEqDiff,Nat.reduceAdd,reduceIte,reduceCtorEq,Nat.reduceLT,Nat.reduceLeDiff,Nat.reduceShiftRight,Nat.reduceMod]
 refine callS_of (isSized_s _ _ (by unfold S63;omega)) ?_
 simp only [vZ,Int.reduceEq,Int.reduceNe,Int.reduceLT,Int.reduceLE,Nat.reduceEqDiff,Nat.reduceAdd,reduceIte,reduceCtorEq,Nat.reduceLT,Nat.reduceLeDiff,Nat.reduceShiftRight,Nat.reduceMod]
 unfold smp
 exact bool_eq Iff.rfl
theorem IsSample_s (n:Int):Sound Tryz.prog 161 [.int .i64 n] (.bool (smp n)):=by
 refine sound_W f_ref02_IsSample (Nat.le_of_ble_eq_true rfl) ?_
 simp only [c_ref02_IsSample,vZ,Int.reduceEq,Int.reduceNe,Int.reduceLT,Int.reduceLE,Nat.reduceEqDiff,Nat.reduceAdd,reduceIte,reduceCtorEq,Nat.reduceLT,Nat.reduceLeDiff,Nat.reduceShiftRight,Nat.reduceMod]
 refine callS_of (Within_s _ _ _) ?_
 simp only [vZ,Int.reduceEq,Int.reduceNe,Int.reduceLT,Int.reduceLE,Nat.reduceEqDiff,Nat.reduceAdd,reduceIte,reduceCtorEq,Nat.reduceLT,Nat.reduceLeDiff,Nat.reduceShiftRight,Nat.reduceMod]
 unfold smp
 exact bool_eq Iff.rfl
end Go.Proofs.YtpaklfjlbocfcaaGreatDoor

/- Contracts: sums,lowest terms,gains,charges. By an AI agent;nothing here is trusted. -/
namespace Go.Proofs.YtpaklfjlbocfcaaGreatDoor
open Go.Av

end Go.Proofs.YtpaklfjlbocfcaaGreatDoor

/- Contracts: fits,charges,photons. By an AI agent;nothing here is trusted. -/
namespace Go.Proofs.YtpaklfjlbocfcaaGreatDoor
open Go.Av

def fitA (den:Int) (parts:List Int):AV:=.agg [.int .i64 den,.sl (ints parts)]
def fE (den:Int) (parts:List Int):Int:=if 1≤den∧den≤1000000000000 then (if 5<parts.length then 8 else if parts.all (fun n=>decide (0≤n∧n≤1000000000000)) then 0 else 2) else 2
theorem fE_ok {den:Int} {parts:List Int} (h:fE den parts=0):(1≤den∧den≤1000000000000)∧parts.length≤5∧∀ x ∈ parts,0≤x∧x≤1000000000000:=by
 unfold fE at h
 split at h
 ·split at h
  ·cases h
  ·split at h
   ·rename_i h1 h2 h3
    exact ⟨h1,by omega,fun x hx=>by simpa using List.all_eq_true.1 h3 x hx⟩
   ·cases h
 ·cases h
theorem fitErr_1_s (n:Int):Sound Tryz.prog 160 [.int .i64 n] (.bool (!decide (0≤n∧n≤1000000000000))):=by
 refine sound_W f_pulse_fitErr_1 (Nat.le_of_ble_eq_true rfl) ?_
 simp only [c_pulse_fitErr_1,vZ,Int.reduceEq,Int.reduceNe,Int.reduceLT,Int.reduceLE,Nat.reduceEqDiff,Nat.reduceAdd,reduceIte,reduceCtorEq,Nat.reduceLT,Nat.reduceLeDiff,Nat.reduceShiftRight,Nat.reduceMod]
 refine callS_of (within_s _ _ _) ?_
 simp only [vZ,Int.reduceEq,Int.reduceNe,Int.reduceLT,Int.reduceLE,Nat.reduceEqDiff,Nat.reduceAdd,reduceIte,reduceCtorEq,Nat.reduceLT,Nat.reduceLeDiff,Nat.reduceShiftRight,Nat.reduceMod]
theorem fitErr_s (den:Int) (parts:List Int) (hl:parts.length<4000000000000000000):Sound Tryz.prog 93 [fitA den parts] (.int .i64 (fE den parts)):=by
 refine sound_W f_pulse_fitErr (Nat.le_of_ble_eq_true rfl) ?_
 simp only [c_pulse_fitErr,fitA,vZ,Int.reduceEq,Int.reduceNe,Int.reduceLT,Int.reduceLE,Nat.reduceEqDiff,Nat.reduceAdd,reduceIte,reduceCtorEq,Nat.reduceLT,Nat.reduceLeDiff,Nat.reduceShiftRight,Nat.reduceMod]
 refine callS_of (contFunc_int_s parts _ [] (fun n=>!decide (0≤n∧n≤1000000000000)) hl (by simp) (fun x _=>fitErr_1_s x)) ?_
 simp only [vZ,Int.reduceEq,Int.reduceNe,Int.reduceLT,Int.reduceLE,Nat.reduceEqDiff,Nat.reduceAdd,reduceIte,reduceCtorEq,Nat.reduceLT,Nat.reduceLeDiff,Nat.reduceShiftRight,Nat.reduceMod]
 refine callS_of (within_s _ _ _) ?_
 simp only [vZ,Int.reduceEq,Int.reduceNe,Int.reduceLT,Int.reduceLE,Nat.reduceEqDiff,Nat.reduceAdd,reduceIte,reduceCtorEq,Nat.reduceLT,Nat.reduceLeDiff,Nat.reduceShiftRight,Nat.reduceMod]
 refine callS_of (unless_s _ _) ?_
 simp only [vZ,Int.reduceEq,Int.reduceNe,Int.reduceLT,Int.reduceLE,Nat.reduceEqDiff,Nat.reduceAdd,reduceIte,reduceCtorEq,Nat.reduceLT,Nat.reduceLeDiff,Nat.reduceShiftRight,Nat.reduceMod]
 refine callS_of (unless_s _ _) ?_
 simp only [vZ,Int.reduceEq,Int.reduceNe,Int.reduceLT,Int.reduceLE,Nat.reduceEqDiff,Nat.reduceAdd,reduceIte,reduceCtorEq,Nat.reduceLT,Nat.reduceLeDiff,Nat.reduceShiftRight,Nat.reduceMod]
 refine callS_of (unless_s _ _) ?_
 simp only [vZ,Int.reduceEq,Int.reduceNe,Int.reduceLT,Int.reduceLE,Nat.reduceEqDiff,Nat.reduceAdd,reduceIte,reduceCtorEq,Nat.reduceLT,Nat.reduceLeDiff,Nat.reduceShiftRight,Nat.reduceMod]
 refine callS_of (first3_s _ _ _) ?_
 simp only [vZ,Int.reduceEq,Int.reduceNe,Int.reduceLT,Int.reduceLE,Nat.reduceEqDiff,Nat.reduceAdd,reduceIte,reduceCtorEq,Nat.reduceLT,Nat.reduceLeDiff,Nat.reduceShiftRight,Nat.reduceMod]
 have hall:(!parts.any fun n=>!decide (0≤n∧n≤1000000000000))=parts.all fun n=>decide (0≤n∧n≤1000000000000):=by rw [List.not_any_eq_all_not];simp only [Bool.not_not]
 rw [hall]
 refine ⟨by intro _ k hk;simp [refsL,refs,upd] at hk;subst hk;simp [upd],?_⟩
 unfold fE
 congr 1
 by_cases h1:1≤den∧den≤1000000000000
 ·by_cases h2:5<parts.length
  ·have h2':¬ (parts.length:Int)≤5:=by omega
   simp only [h1,h2,h2',and_self,decide_true,decide_false,if_true,if_false,ne_eq,not_true_eq_false,Bool.false_eq_true,not_false_eq_true,(by decide:¬ (8:Int)=0)]
  ·have h2':(parts.length:Int)≤5:=by omega
   simp only [h1,h2,h2',and_self,decide_true,decide_false,if_true,if_false,ne_eq,not_true_eq_false,Bool.false_eq_true,not_false_eq_true]
 ·simp only [h1,decide_true,decide_false,if_true,if_false,ne_eq,not_true_eq_false,Bool.false_eq_true,not_false_eq_true,(by decide:¬ (2:Int)=0)]
theorem FitErr_s (den:Int) (parts:List Int) (hl:parts.length<4000000000000000000):Sound Tryz.prog 36 [fitA den parts] (.int .i64 (fE den parts)):=by
 refine sound_W f_ref02_FitErr (Nat.le_of_ble_eq_true rfl) ?_
 simp only [c_ref02_FitErr,fitA,vZ,Int.reduceEq,Int.reduceNe,Int.reduceLT,Int.reduceLE,Nat.reduceEqDiff,Nat.reduceAdd,reduceIte,reduceCtorEq,Nat.reduceLT,Nat.reduceLeDiff,Nat.reduceShiftRight,Nat.reduceMod]
 refine callS_of (Within_s _ _ _) ?_
 by_cases h1:1≤den∧den≤1000000000000
 case neg =>
  have he:fE den parts=2:=by unfold fE;rw [if_neg h1]
  simp only [h1,he,vZ,Int.reduceEq,Int.reduceNe,Int.reduceLT,Int.reduceLE,Nat.reduceEqDiff,Nat.reduceAdd,reduceIte,reduceCtorEq,Nat.reduceLT,Nat.reduceLeDiff,Nat.reduceShiftRight,Nat.reduceMod]
 simp only [h1,vZ,Int.reduceEq,Int.reduceNe,Int.reduceLT,Int.reduceLE,Nat.reduceEqDiff,Nat.reduceAdd,reduceIte,reduceCtorEq,Nat.reduceLT,Nat.reduceLeDiff,Nat.reduceShiftRight,Nat.reduceMod]
 by_cases h2:5<parts.length
 ·have h2':(5:Int)<parts.length:=by omega
  have he:fE den parts=8:=by unfold fE;rw [if_pos h1,if_pos h2]
  simp only [h2',he,vZ,Int.reduceEq,Int.reduceNe,Int.reduceLT,Int.reduceLE,Nat.reduceEqDiff,Nat.reduceAdd,reduceIte,reduceCtorEq,Nat.reduceLT,Nat.reduceLeDiff,Nat.reduceShiftRight,Nat.reduceMod]
 have h2':¬ (5:Int)<parts.length:=by omega
 simp only [h2',vZ,Int.reduceEq,Int.reduceNe,Int.reduceLT,Int.reduceLE,Nat.reduceEqDiff,Nat.reduceAdd,reduceIte,reduceCtorEq,Nat.reduceLT,Nat.reduceLeDiff,Nat.reduceShiftRight,Nat.reduceMod]
 refine W_loop (t:=.mk) (α:=PSigma fun i:Nat=>i≤parts.length∧(∀ x ∈ parts.take i,0≤x∧x≤1000000000000)) (fun ⟨i,_⟩=>((envOf [(1,.ptr 1 0 0),(3,.int .i64 i)],stOf [(1,⟨47,2,[.agg [.int .i64 den,.sl (ints parts)]]⟩)]))) (fun i=>parts.length - i.1) ⟨0,Nat.zero_le _,?_⟩ ?_ (fun ⟨i,hi,hn⟩=>?_)
 ·intro x hx;simp at hx
 ·refine weakX [] (of_decide_eq_true rfl) (of_decide_eq_true rfl) ?_
  (simp only [vcW,vZ,Int.reduceEq,Int.reduceNe,Int.reduceLT,Int.reduceLE,Nat.reduceEqDiff,Nat.reduceAdd,reduceIte,reduceCtorEq,Nat.reduceLT,Nat.reduceLeDiff,Nat.reduceShiftRight,Nat.reduceMod])
  (repeat' first | exact trivial | (with_reducible first | exact RnB.fxB (ints_fxB _) | rfl | refine And.intro ?_ ?_) | (with_reducible (first | refine RnB.bb ?_ | refine RnB.nb ?_);simp only [vcW,vZ,Int.reduceEq,Int.reduceNe,Int.reduceLT,Int.reduceLE,Nat.reduceEqDiff,Nat.reduceAdd,reduceIte,reduceCtorEq,Nat.reduceLT,Nat.reduceLeDiff,Nat.reduceShiftRight,Nat.reduceMod]) | (with_reducible first | refine RnB.ii ?_ | refine RnB.app ?_) | (with_reducible refine RnB.fxB ?_;simp only [vcW,vZ,Int.reduceEq,Int.reduceNe,Int.reduceLT,Int.reduceLE,Nat.reduceEqDiff,Nat.reduceAdd,reduceIte,reduceCtorEq,Nat.reduceLT,Nat.reduceLeDiff,Nat.reduceShiftRight,Nat.reduceMod]) | omega)
 ·by_cases h':i<parts.length
  ·have h3:(i:Int)<parts.length:=by omega
   simp only [h3,ints_get parts i h',vZ,Int.reduceEq,Int.reduceNe,Int.reduceLT,Int.reduceLE,Nat.reduceEqDiff,Nat.reduceAdd,reduceIte,reduceCtorEq,Nat.reduceLT,Nat.reduceLeDiff,Nat.reduceShiftRight,Nat.reduceMod]
   refine ⟨by omega,?_⟩
   refine callS_of (Within_s _ _ _) ?_
   by_cases hw:0≤parts[i]∧parts[i]≤1000000000000
   ·simp only [hw,vZ,Int.reduceEq,Int.reduceNe,Int.reduceLT,Int.reduceLE,Nat.reduceEqDiff,Nat.reduceAdd,reduceIte,reduceCtorEq,Nat.reduceLT,Nat.reduceLeDiff,Nat.reduceShiftRight,Nat.reduceMod]
    refine ⟨by unfold I64;omega,⟨i+1,h',?_⟩,by simp only;omega,?_⟩
    ·rw [List.take_succ_eq_append_getElem h']
     intro x hx
     rcases List.mem_append.1 hx with e | e
     ·exact hn x e
     ·rw [List.mem_singleton.1 e];exact hw
    ·refine weakX [] (of_decide_eq_true rfl) (of_decide_eq_true rfl) ?_
     (simp only [vcW,vZ,Int.reduceEq,Int.reduceNe,Int.reduceLT,Int.reduceLE,Nat.reduceEqDiff,Nat.reduceAdd,reduceIte,reduceCtorEq,Nat.reduceLT,Nat.reduceLeDiff,Nat.reduceShiftRight,Nat.reduceMod])
     (repeat' first | exact trivial | (with_reducible first | exact RnB.fxB (ints_fxB _) | rfl | refine And.intro ?_ ?_) | (with_reducible (first | refine RnB.bb ?_ | refine RnB.nb ?_);simp only [vcW,vZ,Int.reduceEq,Int.reduceNe,Int.reduceLT,Int.reduceLE,Nat.reduceEqDiff,Nat.reduceAdd,reduceIte,reduceCtorEq,Nat.reduceLT,Nat.reduceLeDiff,Nat.reduceShiftRight,Nat.reduceMod]) | (with_reducible first | refine RnB.ii ?_ | refine RnB.app ?_) | (with_reducible refine RnB.fxB ?_;simp only [vcW,vZ,Int.reduceEq,Int.reduceNe,Int.reduceLT,Int.reduceLE,Nat.reduceEqDiff,Nat.reduceAdd,reduceIte,reduceCtorEq,Nat.reduceLT,Nat.reduceLeDiff,Nat.reduceShiftRight,Nat.reduceMod]) | omega)
   ·have he:fE den parts=2:=by
     unfold fE
     rw [if_pos h1,if_neg h2,if_neg]
     intro hall
     have:=List.all_eq_true.1 hall _ (List.getElem_mem h')
     exact hw (by simpa using this)
    simp only [hw,he,vZ,Int.reduceEq,Int.reduceNe,Int.reduceLT,Int.reduceLE,Nat.reduceEqDiff,Nat.reduceAdd,reduceIte,reduceCtorEq,Nat.reduceLT,Nat.reduceLeDiff,Nat.reduceShiftRight,Nat.reduceMod]
  ·have h3:¬ (i:Int)<parts.length:=by omega
   have hin:i=parts.length:=by omega
   subst hin
   rw [List.take_length] at hn
   have he:fE den parts=0:=by
    unfold fE
    rw [if_pos h1,if_neg h2,if_pos]
    exact List.all_eq_true.2 fun x hx=>decide_eq_true (hn x hx)
   simp only [h3,he,vZ,Int.reduceEq,Int.reduceNe,Int.reduceLT,Int.reduceLE,Nat.reduceEqDiff,Nat.reduceAdd,reduceIte,reduceCtorEq,Nat.reduceLT,Nat.reduceLeDiff,Nat.reduceShiftRight,Nat.reduceMod]
theorem CopyFit_s (den:Int) (parts:List Int) (hl:parts.length≤1000000000):Sound Tryz.prog 26 [fitA den parts] (fitA den parts):=by
 refine sound_W f_ref02_CopyFit (Nat.le_of_ble_eq_true rfl) ?_
 simp only [c_ref02_CopyFit,fitA,vZ,Int.reduceEq,Int.reduceNe,Int.reduceLT,Int.reduceLE,Nat.reduceEqDiff,Nat.reduceAdd,reduceIte,reduceCtorEq,Nat.reduceLT,Nat.reduceLeDiff,Nat.reduceShiftRight,Nat.reduceMod]
 refine callS_of (CopyInts_s parts hl) ?_
 simp only [vZ,Int.reduceEq,Int.reduceNe,Int.reduceLT,Int.reduceLE,Nat.reduceEqDiff,Nat.reduceAdd,reduceIte,reduceCtorEq,Nat.reduceLT,Nat.reduceLeDiff,Nat.reduceShiftRight,Nat.reduceMod]

end Go.Proofs.YtpaklfjlbocfcaaGreatDoor

/- Contracts: samples,droops,pedestals. By an AI agent;nothing here is trusted. -/
namespace Go.Proofs.YtpaklfjlbocfcaaGreatDoor
open Go.Av

theorem mul_abs {s k M K:Int} (hk:0≤k∧k≤K) (hM:0≤M) (h : -M≤s∧s≤M) : -(M * K)≤s * k∧s * k≤M * K:=by
 have h1:s * k≤M * k:=Int.mul_le_mul_of_nonneg_right h.2 hk.1
 have h2 : -M * k≤s * k:=Int.mul_le_mul_of_nonneg_right h.1 hk.1
 have h3:M * k≤M * K:=Int.mul_le_mul_of_nonneg_left hk.2 hM
 rw [Int.neg_mul] at h2
 omega
theorem samplesErr_1_s (n:Int):Sound Tryz.prog 201 [.int .i64 n] (.bool (!smp n)):=by
 refine sound_W f_pulse_samplesErr_1 (Nat.le_of_ble_eq_true rfl) ?_
 simp only [c_pulse_samplesErr_1,vZ,Int.reduceEq,Int.reduceNe,Int.reduceLT,Int.reduceLE,Nat.reduceEqDiff,Nat.reduceAdd,reduceIte,reduceCtorEq,Nat.reduceLT,Nat.reduceLeDiff,Nat.reduceShiftRight,Nat.reduceMod]
 refine callS_of (isSample_s _) ?_
 simp only [vZ,Int.reduceEq,Int.reduceNe,Int.reduceLT,Int.reduceLE,Nat.reduceEqDiff,Nat.reduceAdd,reduceIte,reduceCtorEq,Nat.reduceLT,Nat.reduceLeDiff,Nat.reduceShiftRight,Nat.reduceMod]
theorem not_all (l:List Int):(l.any fun n=>!smp n)=!l.all smp:=by rw [← List.not_all_eq_any_not]
theorem samplesErr_s (l:List Int) (hl:l.length<4000000000000000000):Sound Tryz.prog 159 [.sl (ints l)] (.tup [.int .i64 (smI l),.int .i64 (smE l)]):=by
 refine sound_W f_pulse_samplesErr (Nat.le_of_ble_eq_true rfl) ?_
 have hU:=unless_s
 simp only [c_pulse_samplesErr,vZ,Int.reduceEq,Int.reduceNe,Int.reduceLT,Int.reduceLE,Nat.reduceEqDiff,Nat.reduceAdd,reduceIte,reduceCtorEq,Nat.reduceLT,Nat.reduceLeDiff,Nat.reduceShiftRight,Nat.reduceMod]
 refine callS_of (unless_s _ _) ?_
 simp only [vZ,Int.reduceEq,Int.reduceNe,Int.reduceLT,Int.reduceLE,Nat.reduceEqDiff,Nat.reduceAdd,reduceIte,reduceCtorEq,Nat.reduceLT,Nat.reduceLeDiff,Nat.reduceShiftRight,Nat.reduceMod]
 refine callS_of (unless_s _ _) ?_
 simp only [vZ,Int.reduceEq,Int.reduceNe,Int.reduceLT,Int.reduceLE,Nat.reduceEqDiff,Nat.reduceAdd,reduceIte,reduceCtorEq,Nat.reduceLT,Nat.reduceLeDiff,Nat.reduceShiftRight,Nat.reduceMod]
 refine callS_of (first2_s _ _) ?_
 by_cases h0:l.length=0
 ·have h0':¬ (0:Int)<l.length:=by omega
  have he:smE l=10:=by unfold smE;rw [if_pos h0]
  have hi:smI l=0:=by unfold smI;rw [if_neg (by rw [he];decide)]
  simp only [h0',he,hi,vZ,Int.reduceEq,Int.reduceNe,Int.reduceLT,Int.reduceLE,Nat.reduceEqDiff,Nat.reduceAdd,reduceIte,reduceCtorEq,Nat.reduceLT,Nat.reduceLeDiff,Nat.reduceShiftRight,Nat.reduceMod]
 have h0':(0:Int)<l.length:=by omega
 by_cases h1:24<l.length
 ·have h1':¬ (l.length:Int)≤24:=by omega
  have he:smE l=8:=by unfold smE;rw [if_neg h0,if_pos h1]
  have hi:smI l=0:=by unfold smI;rw [if_neg (by rw [he];decide)]
  simp only [h0',h1',he,hi,vZ,Int.reduceEq,Int.reduceNe,Int.reduceLT,Int.reduceLE,Nat.reduceEqDiff,Nat.reduceAdd,reduceIte,reduceCtorEq,Nat.reduceLT,Nat.reduceLeDiff,Nat.reduceShiftRight,Nat.reduceMod]
 have h1':(l.length:Int)≤24:=by omega
 have hx:=idxOf_any l (fun n=>!smp n)
 rw [not_all] at hx
 simp only [h0',h1',vZ,Int.reduceEq,Int.reduceNe,Int.reduceLT,Int.reduceLE,Nat.reduceEqDiff,Nat.reduceAdd,reduceIte,reduceCtorEq,Nat.reduceLT,Nat.reduceLeDiff,Nat.reduceShiftRight,Nat.reduceMod]
 refine callS_of (idxFunc_int_s l _ [] (fun n=>!smp n) hl (by simp) (fun x _=>samplesErr_1_s x)) ?_
 cases hall:l.all smp with
 | true =>
  rw [hall] at hx
  have hx':¬ 0≤idxOf l (fun n=>!smp n):=of_decide_eq_false hx
  have he:smE l=0:=by unfold smE;rw [if_neg h0,if_neg h1,if_pos hall]
  have hi:smI l=0:=by unfold smI;rw [if_neg (by rw [he];decide)]
  simp only [hx',he,hi,vZ,Int.reduceEq,Int.reduceNe,Int.reduceLT,Int.reduceLE,Nat.reduceEqDiff,Nat.reduceAdd,reduceIte,reduceCtorEq,Nat.reduceLT,Nat.reduceLeDiff,Nat.reduceShiftRight,Nat.reduceMod]
 | false =>
  rw [hall] at hx
  have hx':0≤idxOf l (fun n=>!smp n):=of_decide_eq_true hx
  have he:smE l=2:=by unfold smE;rw [if_neg h0,if_neg h1,if_neg (by rw [hall];decide)]
  have hi:smI l=idxOf l (fun n=>!smp n):=by unfold smI;rw [if_pos he]
  simp only [hx',he,hi,vZ,Int.reduceEq,Int.reduceNe,Int.reduceLT,Int.reduceLE,Nat.reduceEqDiff,Nat.reduceAdd,reduceIte,reduceCtorEq,Nat.reduceLT,Nat.reduceLeDiff,Nat.reduceShiftRight,Nat.reduceMod]
theorem sampled_s (l:List Int) (hl:l.length<4000000000000000000):Sound Tryz.prog 92 [.sl (ints l)] (.int .i64 (smE l)):=by
 refine sound_W f_pulse_sampled (Nat.le_of_ble_eq_true rfl) ?_
 simp only [c_pulse_sampled,vZ,Int.reduceEq,Int.reduceNe,Int.reduceLT,Int.reduceLE,Nat.reduceEqDiff,Nat.reduceAdd,reduceIte,reduceCtorEq,Nat.reduceLT,Nat.reduceLeDiff,Nat.reduceShiftRight,Nat.reduceMod]
 refine callS_of (samplesErr_s l hl) ?_
 simp only [vZ,Int.reduceEq,Int.reduceNe,Int.reduceLT,Int.reduceLE,Nat.reduceEqDiff,Nat.reduceAdd,reduceIte,reduceCtorEq,Nat.reduceLT,Nat.reduceLeDiff,Nat.reduceShiftRight,Nat.reduceMod]
def waveA (l:List Int):AV:=.agg [.sl (ints l)]
theorem CheckSamples_s (l:List Int):Sound Tryz.prog 95 [.sl (ints l)] (.tup [.int .i64 (smI l),.int .i64 (smE l)]):=by
 refine sound_W f_ref02_CheckSamples (Nat.le_of_ble_eq_true rfl) ?_
 simp only [c_ref02_CheckSamples,vZ,Int.reduceEq,Int.reduceNe,Int.reduceLT,Int.reduceLE,Nat.reduceEqDiff,Nat.reduceAdd,reduceIte,reduceCtorEq,Nat.reduceLT,Nat.reduceLeDiff,Nat.reduceShiftRight,Nat.reduceMod]
 by_cases h0:l.length=0
 ·have h0':(l.length:Int)=0:=by omega
  have he:smE l=10:=by unfold smE;rw [if_pos h0]
  have hi:smI l=0:=by unfold smI;rw [if_neg (by rw [he];decide)]
  simp only [h0',he,hi,vZ,Int.reduceEq,Int.reduceNe,Int.reduceLT,Int.reduceLE,Nat.reduceEqDiff,Nat.reduceAdd,reduceIte,reduceCtorEq,Nat.reduceLT,Nat.reduceLeDiff,Nat.reduceShiftRight,Nat.reduceMod]
 have h0':¬ (l.length:Int)=0:=by omega
 simp only [h0',vZ,Int.reduceEq,Int.reduceNe,Int.reduceLT,Int.reduceLE,Nat.reduceEqDiff,Nat.reduceAdd,reduceIte,reduceCtorEq,Nat.reduceLT,Nat.reduceLeDiff,Nat.reduceShiftRight,Nat.reduceMod]
 by_cases h1:24<l.length
 ·have h1':(24:Int)<l.length:=by omega
  have he:smE l=8:=by unfold smE;rw [if_neg h0,if_pos h1]
  have hi:smI l=0:=by unfold smI;rw [if_neg (by rw [he];decide)]
  simp only [h1',he,hi,vZ,Int.reduceEq,Int.reduceNe,Int.reduceLT,Int.reduceLE,Nat.reduceEqDiff,Nat.reduceAdd,reduceIte,reduceCtorEq,Nat.reduceLT,Nat.reduceLeDiff,Nat.reduceShiftRight,Nat.reduceMod]
 have h1':¬ (24:Int)<l.length:=by omega
 simp only [h1',vZ,Int.reduceEq,Int.reduceNe,Int.reduceLT,Int.reduceLE,Nat.reduceEqDiff,Nat.reduceAdd,reduceIte,reduceCtorEq,Nat.reduceLT,Nat.reduceLeDiff,Nat.reduceShiftRight,Nat.reduceMod]
 refine W_loop (t:=.mk) (α:=PSigma fun i:Nat=>i≤l.length∧(∀ x ∈ l.take i,smp x=true)) (fun ⟨i,_⟩=>((envOf [(0,.sl (ints l)),(4,.int .i64 i)],stOf []))) (fun i=>l.length - i.1) ⟨0,Nat.zero_le _,?_⟩ ?_ (fun ⟨i,hi,hn⟩=>?_)
 ·intro x hx;simp at hx
 ·refine weakX [] (of_decide_eq_true rfl) (of_decide_eq_true rfl) ?_
  (simp only [vcW,vZ,Int.reduceEq,Int.reduceNe,Int.reduceLT,Int.reduceLE,Nat.reduceEqDiff,Nat.reduceAdd,reduceIte,reduceCtorEq,Nat.reduceLT,Nat.reduceLeDiff,Nat.reduceShiftRight,Nat.reduceMod])
  (repeat' first | exact trivial | (with_reducible first | exact RnB.fxB (ints_fxB _) | rfl | refine And.intro ?_ ?_) | (with_reducible (first | refine RnB.bb ?_ | refine RnB.nb ?_);simp only [vcW,vZ,Int.reduceEq,Int.reduceNe,Int.reduceLT,Int.reduceLE,Nat.reduceEqDiff,Nat.reduceAdd,reduceIte,reduceCtorEq,Nat.reduceLT,Nat.reduceLeDiff,Nat.reduceShiftRight,Nat.reduceMod]) | (with_reducible first | refine RnB.ii ?_ | refine RnB.app ?_) | (with_reducible refine RnB.fxB ?_;simp only [vcW,vZ,Int.reduceEq,Int.reduceNe,Int.reduceLT,Int.reduceLE,Nat.reduceEqDiff,Nat.reduceAdd,reduceIte,reduceCtorEq,Nat.reduceLT,Nat.reduceLeDiff,Nat.reduceShiftRight,Nat.reduceMod]) | omega)
 ·by_cases h':i<l.length
  ·have h2:(i:Int)<l.length:=by omega
   simp only [h2,ints_get l i h',vZ,Int.reduceEq,Int.reduceNe,Int.reduceLT,Int.reduceLE,Nat.reduceEqDiff,Nat.reduceAdd,reduceIte,reduceCtorEq,Nat.reduceLT,Nat.reduceLeDiff,Nat.reduceShiftRight,Nat.reduceMod]
   refine ⟨by omega,?_⟩
   refine callS_of (IsSample_s _) ?_
   cases hw:smp l[i] with
   | true =>
    simp only [vZ,Int.reduceEq,Int.reduceNe,Int.reduceLT,Int.reduceLE,Nat.reduceEqDiff,Nat.reduceAdd,reduceIte,reduceCtorEq,Nat.reduceLT,Nat.reduceLeDiff,Nat.reduceShiftRight,Nat.reduceMod]
    refine ⟨by unfold I64;omega,⟨i+1,h',?_⟩,by simp only;omega,?_⟩
    ·rw [List.take_succ_eq_append_getElem h']
     intro x hx
     rcases List.mem_append.1 hx with e | e
     ·exact hn x e
     ·rw [List.mem_singleton.1 e];exact hw
    ·refine weakX [] (of_decide_eq_true rfl) (of_decide_eq_true rfl) ?_
     (simp only [vcW,vZ,Int.reduceEq,Int.reduceNe,Int.reduceLT,Int.reduceLE,Nat.reduceEqDiff,Nat.reduceAdd,reduceIte,reduceCtorEq,Nat.reduceLT,Nat.reduceLeDiff,Nat.reduceShiftRight,Nat.reduceMod])
     (repeat' first | exact trivial | (with_reducible first | exact RnB.fxB (ints_fxB _) | rfl | refine And.intro ?_ ?_) | (with_reducible (first | refine RnB.bb ?_ | refine RnB.nb ?_);simp only [vcW,vZ,Int.reduceEq,Int.reduceNe,Int.reduceLT,Int.reduceLE,Nat.reduceEqDiff,Nat.reduceAdd,reduceIte,reduceCtorEq,Nat.reduceLT,Nat.reduceLeDiff,Nat.reduceShiftRight,Nat.reduceMod]) | (with_reducible first | refine RnB.ii ?_ | refine RnB.app ?_) | (with_reducible refine RnB.fxB ?_;simp only [vcW,vZ,Int.reduceEq,Int.reduceNe,Int.reduceLT,Int.reduceLE,Nat.reduceEqDiff,Nat.reduceAdd,reduceIte,reduceCtorEq,Nat.reduceLT,Nat.reduceLeDiff,Nat.reduceShiftRight,Nat.reduceMod]) | omega)
   | false =>
    have he:smE l=2:=by
     unfold smE
     rw [if_neg h0,if_neg h1,if_neg]
     intro hall
     have:=List.all_eq_true.1 hall _ (List.getElem_mem h')
     rw [hw] at this;cases this
    have hs:l.findIdx? (fun n=>!smp n)=some i:=by
     rw [List.findIdx?_eq_some_iff_getElem]
     refine ⟨h',by rw [hw];rfl,fun j hj=>?_⟩
     have:=hn l[j] (by rw [List.mem_take_iff_getElem];exact ⟨j,by omega,rfl⟩)
     simp [this]
    have hi:smI l=i:=by unfold smI idxOf;rw [if_pos he,hs]
    simp only [he,hi,vZ,Int.reduceEq,Int.reduceNe,Int.reduceLT,Int.reduceLE,Nat.reduceEqDiff,Nat.reduceAdd,reduceIte,reduceCtorEq,Nat.reduceLT,Nat.reduceLeDiff,Nat.reduceShiftRight,Nat.reduceMod]
  ·have h2:¬ (i:Int)<l.length:=by omega
   have hin:i=l.length:=by omega
   subst hin
   rw [List.take_length] at hn
   have he:smE l=0:=by unfold smE;rw [if_neg h0,if_neg h1,if_pos (List.all_eq_true.2 hn)]
   have hi:smI l=0:=by unfold smI;rw [if_neg (by rw [he];decide)]
   simp only [h2,he,hi,vZ,Int.reduceEq,Int.reduceNe,Int.reduceLT,Int.reduceLE,Nat.reduceEqDiff,Nat.reduceAdd,reduceIte,reduceCtorEq,Nat.reduceLT,Nat.reduceLeDiff,Nat.reduceShiftRight,Nat.reduceMod]
theorem SamplesErr_s (l:List Int):Sound Tryz.prog 35 [.sl (ints l)] (.int .i64 (smE l)):=by
 refine sound_W f_ref02_SamplesErr (Nat.le_of_ble_eq_true rfl) ?_
 simp only [c_ref02_SamplesErr,vZ,Int.reduceEq,Int.reduceNe,Int.reduceLT,Int.reduceLE,Nat.reduceEqDiff,Nat.reduceAdd,reduceIte,reduceCtorEq,Nat.reduceLT,Nat.reduceLeDiff,Nat.reduceShiftRight,Nat.reduceMod]
 refine callS_of (CheckSamples_s l) ?_
 simp only [vZ,Int.reduceEq,Int.reduceNe,Int.reduceLT,Int.reduceLE,Nat.reduceEqDiff,Nat.reduceAdd,reduceIte,reduceCtorEq,Nat.reduceLT,Nat.reduceLeDiff,Nat.reduceShiftRight,Nat.reduceMod]
theorem Wave_s (l:List Int) (hl:l.length≤1000000000):Sound Tryz.prog 24 [.sl (ints l)] (waveA l):=by
 refine sound_W f_ref02_Wave (Nat.le_of_ble_eq_true rfl) ?_
 simp only [c_ref02_Wave,vZ,Int.reduceEq,Int.reduceNe,Int.reduceLT,Int.reduceLE,Nat.reduceEqDiff,Nat.reduceAdd,reduceIte,reduceCtorEq,Nat.reduceLT,Nat.reduceLeDiff,Nat.reduceShiftRight,Nat.reduceMod]
 refine callS_of (CopyInts_s l hl) ?_
 simp only [waveA,vZ,Int.reduceEq,Int.reduceNe,Int.reduceLT,Int.reduceLE,Nat.reduceEqDiff,Nat.reduceAdd,reduceIte,reduceCtorEq,Nat.reduceLT,Nat.reduceLeDiff,Nat.reduceShiftRight,Nat.reduceMod]

end Go.Proofs.YtpaklfjlbocfcaaGreatDoor

/- Contracts: the strings of waveforms and fits. By an AI agent;nothing here is trusted. -/
namespace Go.Proofs.YtpaklfjlbocfcaaGreatDoor
open Go.Av

def numS (l:List Int):List UInt8:=Lib.join (l.map Lib.itoa) [32]
theorem numS_le {l:List Int} (hl:∀ n ∈ l,I64 n):(numS l).length≤l.length * 21:=by
 have:=join_le 32 20 (l.map Lib.itoa) fun w hw=>by
  obtain ⟨n,hn,rfl⟩:=List.mem_map.1 hw
  exact itoa_le (hl n hn)
 simpa [numS] using this
theorem numS_snoc (l:List Int) (i:Nat) (h:i<l.length):numS (l.take (i+1))=(if i=0 then [] else numS (l.take i) ++ [32]) ++ Lib.itoa l[i]:=by
 unfold numS
 rw [List.take_succ_eq_append_getElem h,List.map_append]
 by_cases h0:i=0
 ·subst h0;simp [Lib.join]
 ·rw [if_neg h0]
  obtain ⟨a,r,hr⟩:∃ a r,l.take i=a :: r:=by
   cases ht:l.take i with
   | nil=>have:=congrArg List.length ht;rw [List.length_take] at this;simp only [List.length_nil] at this;omega
   | cons a r=>exact ⟨a,r,rfl⟩
  rw [hr,List.map_cons,List.map_singleton,Lin.join_snoc];simp
theorem FormatWave_s (l:List Int) (hl:∀ n ∈ l,I64 n) (hn:l.length≤1000):Sound Tryz.prog 23 [waveA l] (.str (numS l)):=by
 refine sound_W f_pulse_FormatWave (Nat.le_of_ble_eq_true rfl) ?_
 have hF:=format_s l hl (by omega)
 simp only [c_pulse_FormatWave,waveA,vZ,Int.reduceEq,Int.reduceNe,Int.reduceLT,Int.reduceLE,Nat.reduceEqDiff,Nat.reduceAdd,reduceIte,reduceCtorEq,Nat.reduceLT,Nat.reduceLeDiff,Nat.reduceShiftRight,Nat.reduceMod]
 refine callS_of hF ?_
 simp only [numS,vZ,Int.reduceEq,Int.reduceNe,Int.reduceLT,Int.reduceLE,Nat.reduceEqDiff,Nat.reduceAdd,reduceIte,reduceCtorEq,Nat.reduceLT,Nat.reduceLeDiff,Nat.reduceShiftRight,Nat.reduceMod]
theorem FormatFit_s (den:Int) (ch:List Int) (hd:I64 den) (hl:∀ n ∈ ch,I64 n) (hn:ch.length≤1000):Sound Tryz.prog 25 [fitA den ch] (.str (numS (den :: ch))):=by
 refine sound_W f_pulse_FormatFit (Nat.le_of_ble_eq_true rfl) ?_
 have hmax:=maxLen_str
 have hF:=format_s (den :: ch) (fun n hn=>by rcases List.mem_cons.1 hn with rfl | h;exact hd;exact hl n h) (by simp;omega)
 have hi:ints (den :: ch)=.int .i64 den :: ints ch:=rfl
 rw [hi] at hF
 simp only [c_pulse_FormatFit,fitA,vZ,Int.reduceEq,Int.reduceNe,Int.reduceLT,Int.reduceLE,Nat.reduceEqDiff,Nat.reduceAdd,reduceIte,reduceCtorEq,Nat.reduceLT,Nat.reduceLeDiff,Nat.reduceShiftRight,Nat.reduceMod]
 refine ⟨newsOk_ints ch,⟨by omega,by omega⟩,?_⟩
 rw [borB_good _ _ _ _ _ (by simp [ints_length];omega) (by intro x hx;rcases List.mem_cons.1 hx with rfl | h;rfl;exact ints_fx _ x h)]
 refine callS_of hF ?_
 simp only [numS,vZ,Int.reduceEq,Int.reduceNe,Int.reduceLT,Int.reduceLE,Nat.reduceEqDiff,Nat.reduceAdd,reduceIte,reduceCtorEq,Nat.reduceLT,Nat.reduceLeDiff,Nat.reduceShiftRight,Nat.reduceMod]
def pwE (s:List UInt8):Int:=if (ppN s 5 true).2=0 then smE (ppN s 5 true).1 else (ppN s 5 true).2
def pwL (s:List UInt8):List Int:=if pwE s=0 then (ppN s 5 true).1 else []
def pfE (s:List UInt8):Int:=if (ppN s 13 false).2=0 then fE ((ppN s 13 false).1.headD 0) (ppN s 13 false).1.tail else (ppN s 13 false).2
def pfD (s:List UInt8):Int:=if pfE s=0 then (ppN s 13 false).1.headD 0 else 0
def pfL (s:List UInt8):List Int:=if pfE s=0 then (ppN s 13 false).1.tail else []
theorem ppN_len {s:List UInt8} (hs:s.length≤100000) (k:Nat) (neg:Bool):(ppN s k neg).1.length≤100001∧((ppN s k neg).2=0→(ppN s k neg).1 ≠ []):=by
 unfold ppN
 split
 ·exact ⟨by simp,fun h=>by cases h⟩
 ·split
  ·rename_i l h
   have h1:=Lin.nums_len h
   have h2:=Lin.cut_num 32 s
   have h3:=Lin.cut_ne 32 s
   refine ⟨by simp only;omega,fun _ hl=>?_⟩
   simp only at hl
   rw [hl] at h1
   exact h3 (List.eq_nil_of_length_eq_zero (by rw [← h1];rfl))
  ·exact ⟨by simp,fun h=>by cases h⟩
theorem ParseWave_s (s:List UInt8) (hs:s.length≤100000):Sound Tryz.prog 27 [.str s] (.tup [waveA (pwL s),.int .i64 (pwE s)]):=by
 refine sound_W f_pulse_ParseWave (Nat.le_of_ble_eq_true rfl) ?_
 have hP:=pparse_s s 5 true (by decide) hs
 have hlen:=(ppN_len hs 5 true).1
 unfold ppV at hP
 unfold pwL pwE
 generalize ppN s 5 true=q at *
 obtain ⟨l,e⟩:=q
 simp only at hP hlen ⊢
 have hS:=sampled_s l (by omega)
 have h5:((5:Nat):Int)=5:=rfl
 rw [h5] at hP
 simp only [c_pulse_ParseWave,vZ,Int.reduceEq,Int.reduceNe,Int.reduceLT,Int.reduceLE,Nat.reduceEqDiff,Nat.reduceAdd,reduceIte,reduceCtorEq,Nat.reduceLT,Nat.reduceLeDiff,Nat.reduceShiftRight,Nat.reduceMod]
 refine callS_of hP ?_
 by_cases he:e=0
 ·subst he
  simp only [vZ,Int.reduceEq,Int.reduceNe,Int.reduceLT,Int.reduceLE,Nat.reduceEqDiff,Nat.reduceAdd,reduceIte,reduceCtorEq,Nat.reduceLT,Nat.reduceLeDiff,Nat.reduceShiftRight,Nat.reduceMod]
  refine callS_of hS ?_
  by_cases h2:smE l=0
  ·simp only [h2,waveA,vZ,Int.reduceEq,Int.reduceNe,Int.reduceLT,Int.reduceLE,Nat.reduceEqDiff,Nat.reduceAdd,reduceIte,reduceCtorEq,Nat.reduceLT,Nat.reduceLeDiff,Nat.reduceShiftRight,Nat.reduceMod]
  ·simp only [h2,waveA,vZ,Int.reduceEq,Int.reduceNe,Int.reduceLT,Int.reduceLE,Nat.reduceEqDiff,Nat.reduceAdd,reduceIte,reduceCtorEq,Nat.reduceLT,Nat.reduceLeDiff,Nat.reduceShiftRight,Nat.reduceMod]
   rfl
 ·simp only [he,waveA,vZ,Int.reduceEq,Int.reduceNe,Int.reduceLT,Int.reduceLE,Nat.reduceEqDiff,Nat.reduceAdd,reduceIte,reduceCtorEq,Nat.reduceLT,Nat.reduceLeDiff,Nat.reduceShiftRight,Nat.reduceMod]
  rfl
theorem tk_slice1 (g:Option (Nat × Bool)) (d:Option Nat) (b:Bool) (sz:Nat) (x lo:MX) (e:Env):tkM ⟨g,d,.slice b sz x (some lo) none⟩ e=some (refs1 (x.ev e) ++ refs1 (lo.ev e)):=by simp [tkM,tk,pureOp,xsOf,allocs]
theorem cells_ints {l:List Int}:∀ x ∈ ints l,(cellsOf x).length=1:=fun x hx=>by
 obtain ⟨n,_,rfl⟩:=List.mem_map.1 hx
 rfl
theorem drop1_ints (l:List Int):(ints l).drop 1=ints l.tail:=by cases l <;> rfl
theorem ParseFit_s (s:List UInt8) (hs:s.length≤100000):Sound Tryz.prog 28 [.str s] (.tup [fitA (pfD s) (pfL s),.int .i64 (pfE s)]):=by
 refine sound_W f_pulse_ParseFit (Nat.le_of_ble_eq_true rfl) ?_
 have hP:=pparse_s s 13 false (by decide) hs
 have hlen:=(ppN_len hs 13 false)
 unfold ppV at hP
 unfold pfL pfD pfE
 generalize ppN s 13 false=q at *
 obtain ⟨l,e⟩:=q
 simp only at hP hlen ⊢
 have hS:=fitErr_s (l.headD 0) l.tail (by simp;omega)
 unfold fitA at hS
 have h5:((13:Nat):Int)=13:=rfl
 rw [h5] at hP
 simp only [c_pulse_ParseFit,vZ,Int.reduceEq,Int.reduceNe,Int.reduceLT,Int.reduceLE,Nat.reduceEqDiff,Nat.reduceAdd,reduceIte,reduceCtorEq,Nat.reduceLT,Nat.reduceLeDiff,Nat.reduceShiftRight,Nat.reduceMod]
 refine callS_of hP ?_
 by_cases he:e=0
 ·subst he
  obtain ⟨d,ch,rfl⟩:∃ d ch,l=d :: ch:=List.exists_cons_of_ne_nil (hlen.2 rfl)
  simp only [List.headD_cons,List.tail_cons] at hS ⊢
  have h0:(ints (d :: ch))[0]?=some (.int .i64 d):=rfl
  have t0:(0:Int).toNat=0:=rfl
  have t1:(1:Int).toNat=1:=rfl
  have hd1:=drop1_ints (d :: ch)
  simp only [List.tail_cons] at hd1
  have h1l:(1:Int)≤(d :: ch).length:=by simp only [List.length_cons];omega
  simp only [h0,t0,t1,hd1,ints_length,tk_slice1,vZ,Int.reduceEq,Int.reduceNe,Int.reduceLT,Int.reduceLE,Nat.reduceEqDiff,Nat.reduceAdd,reduceIte,reduceCtorEq,Nat.reduceLT,Nat.reduceLeDiff,Nat.reduceShiftRight,Nat.reduceMod]
  refine ⟨⟨by omega,cells_ints⟩,?_⟩
  refine callS_of hS ?_
  by_cases h2:fE d ch=0
  ·simp only [h2,fitA,vZ,Int.reduceEq,Int.reduceNe,Int.reduceLT,Int.reduceLE,Nat.reduceEqDiff,Nat.reduceAdd,reduceIte,reduceCtorEq,Nat.reduceLT,Nat.reduceLeDiff,Nat.reduceShiftRight,Nat.reduceMod]
  ·simp only [h2,fitA,vZ,Int.reduceEq,Int.reduceNe,Int.reduceLT,Int.reduceLE,Nat.reduceEqDiff,Nat.reduceAdd,reduceIte,reduceCtorEq,Nat.reduceLT,Nat.reduceLeDiff,Nat.reduceShiftRight,Nat.reduceMod]
   rfl
 ·simp only [he,fitA,vZ,Int.reduceEq,Int.reduceNe,Int.reduceLT,Int.reduceLE,Nat.reduceEqDiff,Nat.reduceAdd,reduceIte,reduceCtorEq,Nat.reduceLT,Nat.reduceLeDiff,Nat.reduceShiftRight,Nat.reduceMod]
  rfl
theorem refWords_s (l:List Int) (hl:∀ n ∈ l,I64 n) (hn:l.length≤1000):Sound Tryz.prog 31 [.sl (ints l)] (.str (numS l)):=by
 refine sound_W f_ref02_Words (Nat.le_of_ble_eq_true rfl) ?_
 have hmax:=maxLen_str
 have hle:∀ i,(numS (l.take i)).length≤21000:=fun i=>by
  have:=numS_le (l:=l.take i) fun n hn=>hl n (List.mem_of_mem_take hn)
  rw [List.length_take] at this
  omega
 simp only [c_ref02_Words,vZ,Int.reduceEq,Int.reduceNe,Int.reduceLT,Int.reduceLE,Nat.reduceEqDiff,Nat.reduceAdd,reduceIte,reduceCtorEq,Nat.reduceLT,Nat.reduceLeDiff,Nat.reduceShiftRight,Nat.reduceMod]
 refine W_loop (t:=.mk) (α:=PSigma fun i:Nat=>i≤l.length) (fun ⟨i,_⟩=>(envOf [(0,.sl (ints l)),(3,.str (numS (l.take i))),(4,.int .i64 i)],stOf [])) (fun p=>l.length - p.1) ⟨0,Nat.zero_le _⟩ ?_ (fun ⟨i,hi⟩=>?_)
 ·refine weakX [] (of_decide_eq_true rfl) (of_decide_eq_true rfl) ?_
  (simp only [vcW,vZ,Int.reduceEq,Int.reduceNe,Int.reduceLT,Int.reduceLE,Nat.reduceEqDiff,Nat.reduceAdd,reduceIte,reduceCtorEq,Nat.reduceLT,Nat.reduceLeDiff,Nat.reduceShiftRight,Nat.reduceMod])
  (repeat' first | exact trivial | (with_reducible first | exact RnB.fxB (ints_fxB _) | rfl | refine And.intro ?_ ?_) | (with_reducible (first | refine RnB.bb ?_ | refine RnB.nb ?_);simp only [vcW,vZ,Int.reduceEq,Int.reduceNe,Int.reduceLT,Int.reduceLE,Nat.reduceEqDiff,Nat.reduceAdd,reduceIte,reduceCtorEq,Nat.reduceLT,Nat.reduceLeDiff,Nat.reduceShiftRight,Nat.reduceMod]) | (with_reducible first | refine RnB.ii ?_ | refine RnB.app ?_) | (with_reducible refine RnB.fxB ?_;simp only [vcW,vZ,Int.reduceEq,Int.reduceNe,Int.reduceLT,Int.reduceLE,Nat.reduceEqDiff,Nat.reduceAdd,reduceIte,reduceCtorEq,Nat.reduceLT,Nat.reduceLeDiff,Nat.reduceShiftRight,Nat.reduceMod]) | omega)
  all_goals first | rfl | trace_state
 ·dsimp only at hi ⊢
  have hli:=hle i
  by_cases h':i<l.length
  ·have hc1:(i:Int)<l.length:=by omega
   have hg:=ints_get l i h'
   have hI:=hl _ (List.getElem_mem h')
   have hit:=itoa_le hI
   have hD:=Decimal_s l[i] hI
   have hsn:=numS_snoc l i h'
   by_cases h0:i=0
   ·have hic:¬ (0:Int)<(i:Nat):=by omega
    rw [if_pos h0] at hsn
    have hnow:numS (l.take i)=[]:=by rw [h0];rfl
    rw [hnow]
    simp only [hc1,hic,hg,ints_length,vZ,Int.reduceEq,Int.reduceNe,Int.reduceLT,Int.reduceLE,Nat.reduceEqDiff,Nat.reduceAdd,reduceIte,reduceCtorEq,Nat.reduceLT,Nat.reduceLeDiff,Nat.reduceShiftRight,Nat.reduceMod]
    refine ⟨by omega,callS_of hD ?_⟩
    simp only [vZ,Int.reduceEq,Int.reduceNe,Int.reduceLT,Int.reduceLE,Nat.reduceEqDiff,Nat.reduceAdd,reduceIte,reduceCtorEq,Nat.reduceLT,Nat.reduceLeDiff,Nat.reduceShiftRight,Nat.reduceMod]
    refine ⟨by (try simp only [List.length_nil]);omega,by unfold I64;omega,⟨i+1,h'⟩,by (try simp only);omega,?_⟩
    rw [hsn]
    refine weakX [] (of_decide_eq_true rfl) (of_decide_eq_true rfl) ?_
    (simp only [vcW,vZ,Int.reduceEq,Int.reduceNe,Int.reduceLT,Int.reduceLE,Nat.reduceEqDiff,Nat.reduceAdd,reduceIte,reduceCtorEq,Nat.reduceLT,Nat.reduceLeDiff,Nat.reduceShiftRight,Nat.reduceMod])
    (repeat' first | exact trivial | (with_reducible first | exact RnB.fxB (ints_fxB _) | rfl | refine And.intro ?_ ?_) | (with_reducible (first | refine RnB.bb ?_ | refine RnB.nb ?_);simp only [vcW,vZ,Int.reduceEq,Int.reduceNe,Int.reduceLT,Int.reduceLE,Nat.reduceEqDiff,Nat.reduceAdd,reduceIte,reduceCtorEq,Nat.reduceLT,Nat.reduceLeDiff,Nat.reduceShiftRight,Nat.reduceMod]) | (with_reducible first | refine RnB.ii ?_ | refine RnB.app ?_) | (with_reducible refine RnB.fxB ?_;simp only [vcW,vZ,Int.reduceEq,Int.reduceNe,Int.reduceLT,Int.reduceLE,Nat.reduceEqDiff,Nat.reduceAdd,reduceIte,reduceCtorEq,Nat.reduceLT,Nat.reduceLeDiff,Nat.reduceShiftRight,Nat.reduceMod]) | omega)
    all_goals first | rfl | trace_state
   ·have hic:(0:Int)<(i:Nat):=by omega
    rw [if_neg h0] at hsn
    simp only [hc1,hic,hg,ints_length,vZ,Int.reduceEq,Int.reduceNe,Int.reduceLT,Int.reduceLE,Nat.reduceEqDiff,Nat.reduceAdd,reduceIte,reduceCtorEq,Nat.reduceLT,Nat.reduceLeDiff,Nat.reduceShiftRight,Nat.reduceMod]
    refine ⟨by omega,by omega,callS_of hD ?_⟩
    simp only [vZ,Int.reduceEq,Int.reduceNe,Int.reduceLT,Int.reduceLE,Nat.reduceEqDiff,Nat.reduceAdd,reduceIte,reduceCtorEq,Nat.reduceLT,Nat.reduceLeDiff,Nat.reduceShiftRight,Nat.reduceMod]
    refine ⟨by simp only [List.length_append,List.length_cons,List.length_nil];omega,by unfold I64;omega,⟨i+1,h'⟩,by (try simp only);omega,?_⟩
    rw [hsn]
    refine weakX [] (of_decide_eq_true rfl) (of_decide_eq_true rfl) ?_
    (simp only [vcW,vZ,Int.reduceEq,Int.reduceNe,Int.reduceLT,Int.reduceLE,Nat.reduceEqDiff,Nat.reduceAdd,reduceIte,reduceCtorEq,Nat.reduceLT,Nat.reduceLeDiff,Nat.reduceShiftRight,Nat.reduceMod])
    (repeat' first | exact trivial | (with_reducible first | exact RnB.fxB (ints_fxB _) | rfl | refine And.intro ?_ ?_) | (with_reducible (first | refine RnB.bb ?_ | refine RnB.nb ?_);simp only [vcW,vZ,Int.reduceEq,Int.reduceNe,Int.reduceLT,Int.reduceLE,Nat.reduceEqDiff,Nat.reduceAdd,reduceIte,reduceCtorEq,Nat.reduceLT,Nat.reduceLeDiff,Nat.reduceShiftRight,Nat.reduceMod]) | (with_reducible first | refine RnB.ii ?_ | refine RnB.app ?_) | (with_reducible refine RnB.fxB ?_;simp only [vcW,vZ,Int.reduceEq,Int.reduceNe,Int.reduceLT,Int.reduceLE,Nat.reduceEqDiff,Nat.reduceAdd,reduceIte,reduceCtorEq,Nat.reduceLT,Nat.reduceLeDiff,Nat.reduceShiftRight,Nat.reduceMod]) | omega)
    all_goals first | rfl | trace_state
  ·have hil:i=l.length:=by omega
   subst hil
   have hc1:¬ (l.length:Int)<l.length:=by omega
   rw [List.take_length] at *
   simp only [hc1,ints_length,vZ,Int.reduceEq,Int.reduceNe,Int.reduceLT,Int.reduceLE,Nat.reduceEqDiff,Nat.reduceAdd,reduceIte,reduceCtorEq,Nat.reduceLT,Nat.reduceLeDiff,Nat.reduceShiftRight,Nat.reduceMod]
theorem refFormatFit_s (den:Int) (ch:List Int) (hd:I64 den) (hl:∀ n ∈ ch,I64 n) (hn:ch.length≤900):Sound Tryz.prog 32 [fitA den ch] (.str (numS (den :: ch))):=by
 refine sound_W f_ref02_FormatFit (Nat.le_of_ble_eq_true rfl) ?_
 have hmax:=maxLen_str
 have hF:=refWords_s (den :: ch) (fun n hn=>by rcases List.mem_cons.1 hn with rfl | h;exact hd;exact hl n h) (by simp;omega)
 have hi:ints (den :: ch)=.int .i64 den :: ints ch:=rfl
 rw [hi] at hF
 simp only [c_ref02_FormatFit,fitA,vZ,Int.reduceEq,Int.reduceNe,Int.reduceLT,Int.reduceLE,Nat.reduceEqDiff,Nat.reduceAdd,reduceIte,reduceCtorEq,Nat.reduceLT,Nat.reduceLeDiff,Nat.reduceShiftRight,Nat.reduceMod]
 refine ⟨newsOk_ints ch,⟨by omega,by omega⟩,?_⟩
 rw [borB_good _ _ _ _ _ (by simp [ints_length];omega) (by intro x hx;rcases List.mem_cons.1 hx with rfl | h;rfl;exact ints_fx _ x h)]
 refine callS_of hF ?_
 simp only [vZ,Int.reduceEq,Int.reduceNe,Int.reduceLT,Int.reduceLE,Nat.reduceEqDiff,Nat.reduceAdd,reduceIte,reduceCtorEq,Nat.reduceLT,Nat.reduceLeDiff,Nat.reduceShiftRight,Nat.reduceMod]
end Go.Proofs.YtpaklfjlbocfcaaGreatDoor

