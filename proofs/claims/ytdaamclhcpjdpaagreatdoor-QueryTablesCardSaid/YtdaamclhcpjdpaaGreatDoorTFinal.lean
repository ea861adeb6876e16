/- QueryTables returns true for every input and changes nothing. It holds for every input; no condition beyond the given row and card. -/
import Derived.Test.YtdaamclhcpjdpaaGreatDoorTM
import Derived.Test.YtdaamclhcpjdpaaGreatDoorT43
import Derived.Test.YtdaamclhcpjdpaaGreatDoorTFacts
import Derived.Test.YtdaamclhcpjdpaaGreatDoorTTie
import Derived.WalkKit
import Derived.Deep.DeepWitnessRowRef
import Derived.Lib.LaidIn
namespace Go.Proofs.YtdaamclhcpjdpaaGreatDoor
open Go Go.Ev Go.Ev.Pp Go.Ev.Rp Go.ChangeShapes Go.WideShapes Go.ChangeAt Go.RowKit
set_option linter.unusedSimpArgs false
set_option linter.unusedVariables false
set_option maxRecDepth 100000
abbrev wa:Array Value:=#[.agg #[.int .u16 0,.int .u16 0,.int .u16 0,.int .u16 0,.int .u16 0,.int .u16 0,.int .u16 0,.int .u16 0],.slice none 0 0,.int .i64 0,.bool false]
theorem three{α:Type}{l:List α}(h:l.length=4):∃a b c d,l=[a,b,c,d]:=match l,h with|[a,b,c,d],_=>⟨a,b,c,d,rfl⟩
theorem walk{H:Type}{enc:TypeId×Value→H}{W:World}{args:Array Value}{ds:List (DataW H)}{p:List MemPlace}(hA:DataW.TrodAll enc Tryz.prog W 0 (fun _=>true) true [23,24,3,4] args.toList ds p)
  (Xn:∀(j:Nat)t v,([23,24,3,4]:List TypeId)[j]?=some t→args.toList[j]?=some v→Value.okWide Tryz.prog W .any 0 t v) (hlm:laidMetH Tryz.prog Rows.queryTablesRow.laid W) (hsh:W.ShapedOpen Tryz.prog):
  Calls Tryz.prog 4 args W fun e w'=>e= .returned (.bool true)∧Kept W w':=by
 have oA:xV Tryz.prog W:=low_ok hlm hsh;have hty:List.all [23,24,3,4] (eJ Tryz.prog 10)=true:=by kernel_rfl
 obtain⟨hl,VA⟩:=fits_args (m:=10) [23,24,3,4] args.toList ds p hA hty;obtain⟨d0,d1,d2,d3,rfl⟩:=three hl
 have f0:fK (Uf (xr Tryz.prog 10 23)) (fx d0):=Zi (VA 0 23 d0 rfl rfl);rw[show Uf (xr Tryz.prog 10 23)=[.i .u16 0 65535,.i .u16 0 65535,.i .u16 0 65535,.i .u16 0 65535,.i .u16 0 65535,.i .u16 0 65535,.i .u16 0 65535,.i .u16 0 65535] by kernel_rfl] at f0;obtain⟨x0_0,q0,e0,p0_0,f0⟩:=eP f0;obtain⟨x0_1,q0,rfl,p0_1,f0⟩:=eP f0;obtain⟨x0_2,q0,rfl,p0_2,f0⟩:=eP f0;obtain⟨x0_3,q0,rfl,p0_3,f0⟩:=eP f0;obtain⟨x0_4,q0,rfl,p0_4,f0⟩:=eP f0;obtain⟨x0_5,q0,rfl,p0_5,f0⟩:=eP f0;obtain⟨x0_6,q0,rfl,p0_6,f0⟩:=eP f0;obtain⟨x0_7,q0,rfl,p0_7,f0⟩:=eP f0;obtain rfl:=oT f0;obtain⟨z0_0,rfl,l0_0,u0_0⟩:=Ty.dP p0_0;obtain⟨z0_1,rfl,l0_1,u0_1⟩:=Ty.dP p0_1;obtain⟨z0_2,rfl,l0_2,u0_2⟩:=Ty.dP p0_2;obtain⟨z0_3,rfl,l0_3,u0_3⟩:=Ty.dP p0_3;obtain⟨z0_4,rfl,l0_4,u0_4⟩:=Ty.dP p0_4;obtain⟨z0_5,rfl,l0_5,u0_5⟩:=Ty.dP p0_5;obtain⟨z0_6,rfl,l0_6,u0_6⟩:=Ty.dP p0_6;obtain⟨z0_7,rfl,l0_7,u0_7⟩:=Ty.dP p0_7;have f1:fK (Uf (xr Tryz.prog 10 24)) (fx d1):=Zi (VA 1 24 d1 rfl rfl);rw[show Uf (xr Tryz.prog 10 24)=[.l 9223372036854775807 [.i .u16 0 65535,.i .u16 0 65535,.i .u16 0 65535,.i .u16 0 65535,.i .u16 0 65535,.i .u16 0 65535,.i .u16 0 65535,.i .u16 0 65535,.i .u16 0 65535]] by kernel_rfl] at f1;obtain⟨aja,q1,e1,p1_0,f1⟩:=eP f1;obtain rfl:=oT f1;obtain⟨w1,i1,l1,o1⟩:=Ty.aL p1_0;have f2:fK (Uf (xr Tryz.prog 10 3)) (fx d2):=Zi (VA 2 3 d2 rfl rfl);rw[show Uf (xr Tryz.prog 10 3)=[.i .i64 (-9223372036854775808) 9223372036854775807] by kernel_rfl] at f2;obtain⟨gm,q2,e2,p2_0,f2⟩:=eP f2;obtain rfl:=oT f2;obtain⟨z2_0,rfl,l2_0,u2_0⟩:=Ty.dP p2_0;have f3:fK (Uf (xr Tryz.prog 10 4)) (fx d3):=Zi (VA 3 4 d3 rfl rfl);rw[show Uf (xr Tryz.prog 10 4)=[.b] by kernel_rfl] at f3;obtain⟨ng,q3,e3,p3_0,f3⟩:=eP f3;obtain rfl:=oT f3;obtain⟨z3_0,rfl⟩:=Ty.eb p3_0;have ea:H5 Tryz.prog [23,24,3,4] [d0,d1,d2,d3]=[.agg [.d (.i .u16 z0_0),.d (.i .u16 z0_1),.d (.i .u16 z0_2),.d (.i .u16 z0_3),.d (.i .u16 z0_4),.d (.i .u16 z0_5),.d (.i .u16 z0_6),.d (.i .u16 z0_7)],.d aja,.d (.i .i64 z2_0),.d (.b z3_0)]:=by
  simp only[H5,od,e0,e1,e2,e3,Tryz.underlying3,Tryz.underlying4,Tryz.underlying23,Tryz.underlying24];rfl
 refine law_runs (T:=TT) ft1_ok xt1_ok zt1_ok mix Tryz.func4 (by kernel_rfl) ftT.q4 oA hA hty Xn ?_;rw[ea];exact lawTables ftT (sound_true (by kernel_rfl) (by kernel_rfl)) (txA zTT) l0_0 u0_0 l0_1 u0_1 l0_2 u0_2 l0_3 u0_3 l0_4 u0_4 l0_5 u0_5 l0_6 u0_6 l0_7 u0_7 i1 l1 o1 l2_0 u2_0
theorem own:ownKnob Tryz.prog.godebug=none:=by kernel_rfl
noncomputable def laidWorld(os:Os):World:=
 let n:=(World.settled Tryz.prog os).heap.size
 let w0:=World.holding Tryz.prog os ⟨#[.cells #[.string ⟨#[118,97,108,117,101,32,111,117,116,32,111,102,32,114,97,110,103,101]⟩] 759,.cells #[.string ⟨#[105,110,118,97,108,105,100,32,115,121,110,116,97,120]⟩] 759],#[],[]⟩
 {w0 with heap:=putG (putG (putG (putG (putG (putG (putG (putG w0.heap 0 (flatD (Rows.laid_annalist_group_allDays (H:=Unit)))) 2 (flatD Rows.laid_unicode_utf8_first)) 3 (flatD (Rows.laid_unicode_utf8_acceptRanges (H:=Unit)))) 4 (flatD (Rows.laid_internal_strconv_uint64pow10 (H:=Unit)))) 5 (flatD (Rows.laid_math_bits_deBruijn32tab (H:=Unit)))) 6 (flatD (Rows.laid_math_bits_deBruijn64tab (H:=Unit)))) 7 [.iface 757 (.pointer (some ⟨n+1,0,none⟩))]) 8 [.iface 757 (.pointer (some ⟨n,0,none⟩))]}
theorem laid_met(os:Os)(args:Array Value):laidMet Tryz.prog Rows.queryTablesRow.laid ((laidWorld os).forCall (fun _ _=>0) ⟨#[],args,[]⟩).memory:=
 laidMet_of_run' 12 (by kernel_rfl) (by kernel_rfl)
theorem witness_row(os:Os){H:Type}(enc:TypeId×Value→H):
  (OpenSpec.ofChange Rows.queryTablesSpec).preRow enc Tryz.prog Tryz.f4 Rows.queryTablesRow.domain false Rows.queryTablesRow.laid ((laidWorld os).forCall (fun _ _=>0) ⟨#[],wa,[]⟩).memory wa:=by
 have hw:(DataW.whole enc Tryz.prog ((laidWorld os).forCall (fun _ _=>0) ⟨#[],wa,[]⟩).memory Tryz.f4.params.toList Rows.queryTablesSpec.vars false wa.toList 12).map (fun x=>(x.1,x.2.1))=
   some ([.agg [.lit (.int .u16 0),.lit (.int .u16 0),.lit (.int .u16 0),.lit (.int .u16 0),.lit (.int .u16 0),.lit (.int .u16 0),.lit (.int .u16 0),.lit (.int .u16 0)],.nil,.lit (.int .i64 0),.lit (.bool false)],[]):=by kernel_rfl
 obtain⟨⟨x1,x2,x3⟩,hx,hx1⟩:=Option.map_eq_some_iff.1 hw;simp only[Prod.mk.injEq] at hx1;obtain⟨rfl,rfl⟩:=hx1;exact OpenSpec.preRow_of_cond 12 hx (by kernel_rfl) (fun k hk=>by cases hk) (by kernel_rfl) (laid_met os _)
theorem lifted(os:Os)(started:os.Started)(H:Type)(enc:TypeId×Value→H)(F:Stop.Interp):
  ReturnsInHanded {} Tryz.checked os 4 .any ((OpenSpec.ofChange Rows.queryTablesSpec).preRow enc Tryz.prog Tryz.f4 Rows.queryTablesRow.domain false Rows.queryTablesRow.laid) (((OpenSpec.ofChange Rows.queryTablesSpec).at F).post enc Tryz.prog Tryz.f4 false true false false):=by
 refine returnsInHanded_of_row (C:=Tryz.checked) (s:=OpenSpec.ofChange Rows.queryTablesSpec) own started (by kernel_rfl) Tryz.func4
  (witness_row_atRef (enc:=enc) (C:=Tryz.checked) false (laidWorld os) wa rfl (by kernel_rfl) (by kernel_rfl) (by kernel_rfl) (witness_row os enc)) ?_
 intro W base args ds gs before hval0 hW _ _ _ hlm hsh _;have hval1:∀(j:Nat)t v,Tryz.f4.params[j]?=some t→args[j]?=some v→Value.okWide Tryz.prog W .any base t v:=hval0;have hval:∀(j:Nat)t v,([23,24,3,4]:List TypeId)[j]?=some t→args.toList[j]?=some v→Value.okWide Tryz.prog W .any 0 t v:=fun j t v h1 h2=>Value.okWide_any_base (hval1 j t v (by rw[←Array.getElem?_toList,Tryz.params4];exact h1) (by rw[←Array.getElem?_toList];exact h2))
 have hW':=hW;obtain⟨p,q,hA0,hV,rfl,_,_⟩:=hW;have hA:DataW.TrodAll enc Tryz.prog W 0 (fun _=>true) true [23,24,3,4] args.toList ds p:=by
  have h:DataW.TrodAll enc Tryz.prog W 0 (fun _=>true) true Tryz.f4.params.toList args.toList ds p:=hA0;rwa [Tryz.params4] at h
 obtain⟨rfl,rfl⟩:=trodVars_none hV;have hty:List.all [23,24,3,4] (eJ Tryz.prog 10)=true:=by kernel_rfl
 obtain⟨hl,_⟩:=fits_args (m:=10) [23,24,3,4] args.toList ds p hA hty;refine(walk hA hval hlm hsh).mono fun e W'⟨he,hk⟩=>?_
 subst he;obtain⟨d0,d1,d2,d3,rfl⟩:=three hl
 have e1:((OpenSpec.ofChange Rows.queryTablesSpec).at F).fn H ([d0,d1,d2,d3]++[])={results:=[.lit (.bool true)],args:=[d0,d1,d2,d3]}:=rfl;refine⟨_,rfl,_,_,_,[],p,[],hW',?_,?_,?_,hk.keptBut _,fun h=>by cases h⟩
 ·rw[e1];exact trodAll_cons_mk (shut_bool Tryz.underlying4 _) trodAll_mk0
 ·rw[e1];have h2:DataW.TrodAll enc Tryz.prog W' 0 (fun b=>decide (b<W.heap.size)) true Tryz.f4.params.toList args.toList [d0,d1,d2,d3] p:=by
   rw[Tryz.params4];exact hk.rereads (fun b hb=>by simpa using hb) hty hA
  exact h2
 ·rw[e1];rfl
theorem said:Rows.QueryTablesSaid:=
 OpenClaim.holds_of_cond 4 Tryz.f4 rfl rfl rfl rfl rfl rfl rfl ⟨rfl,rfl,rfl,rfl,rfl⟩ rfl rfl rfl rfl rfl (by kernel_rfl) Tryz.func4 closed
  (of_decide_eq_true (by kernel_rfl)) (by unfold Func.isWrapper;first|(rw[if_pos (by decide+kernel)];kernel_rfl)|(rw[if_neg (by decide+kernel)];exact⟨rfl,rfl⟩))
  (fun os started H enc _ F=>by rw[OpenClaim.pre_eq_preRow];exact lifted os started H enc F)
theorem nog:(Tryz.pinned.checked.prog.funcs.toList.all fun f=>!f.goes)=true:=by kernel_rfl
theorem nog_at{P:Program}(h:(P.funcs.toList.all fun f=>!f.goes)=true)(g:Nat):(P.funcs[g]?).any Func.goes=false:=by
 cases e:P.funcs[g]? with
 |none=>rfl
 |some fn=>
  have hm:fn∈P.funcs.toList:=List.mem_of_getElem? (by rw[Array.getElem?_toList];exact e)
  have:=List.all_eq_true.1 h fn hm
  simpa using this
theorem nog_all{P:Program}(h:(P.funcs.toList.all fun f=>!f.goes)=true)(f:Nat):P.goes f=false:=by
 have h1:((P.closure f).any fun g=>(P.funcs[g]?).any Func.goes)=false:=List.any_eq_false.2 fun g _=>by rw[nog_at h g];simp
 have h2:P.funcs.any Func.goes=false:=by
  rw[←Array.any_toList];exact List.any_eq_false.2 fun f hf=>by have:=List.all_eq_true.1 h f hf;simpa using this
 unfold Program.goes
 rw[h1,h2,Bool.and_false];rfl
theorem fn0:Tryz.pinned.checked.prog.funcNamed "annalist/annalistlaw31.QueryTables"=some 4:=by kernel_rfl
theorem goes_of{P:Program}{c:OpenClaim}{f:Nat}(hs:c.start=.entering)(hf:P.funcNamed c.func=some f)(hg:P.goes f=false):false=c.goesBy P:=by
 unfold OpenClaim.goesBy Program.goesAt Program.goesFrom
 rw[hs,hf]
 simp[hg]
theorem goes0:false=Rows.queryTablesRow.goesBy Tryz.pinned.checked.prog:=goes_of rfl fn0 (nog_all nog 4)
theorem lk0:true=Tryz.pinned.checked.prog.looks []:=by
 unfold Program.looks
 exact (List.any_eq_true.2 ⟨681,List.mem_range.2 (by decide +kernel),by kernel_rfl⟩).symm
theorem hall0:(Tryz.f4.params.toList.all fun t=>!(Tryz.prog.wantsStandIn t))=true:=by kernel_rfl
theorem plain(f:FuncId)(fn:Func)(hf:Tryz.pinned.checked.prog.funcNamed "annalist/annalistlaw31.QueryTables"=some f)(JX:Tryz.pinned.checked.prog.funcs[f]?=some fn):
  true=Tryz.pinned.checked.prog.looks []∧∀(j:Nat)t,fn.params[j]?=some t→Tryz.pinned.checked.prog.wantsStandIn t=false:=by
 obtain rfl:f=4:=Option.some.inj (fn0.symm.trans hf)|>.symm;obtain rfl:fn=Tryz.f4:=(Option.some.inj (Tryz.func4.symm.trans JX)).symm;refine⟨lk0,fun j t ht=>?_⟩;have hall:=hall0
 have hm:t∈Tryz.f4.params.toList:=List.mem_of_getElem? (by rw[Array.getElem?_toList];exact ht);have:=List.all_eq_true.1 hall t hm;have h2:Tryz.prog.wantsStandIn t=false:=by simpa using this
 exact h2
theorem queryTables_card:Rows.QueryTablesCardSaid:=
 Claim7.holds_tied_plain_at .later [] _ _ _ _ said (fun _ h=>by cases h) (by kernel_rfl) (fun _ h=>by cases h) queryTables_row_tie rfl ⟨rfl,rfl⟩ (by kernel_rfl) rfl plain goes0
end Go.Proofs.YtdaamclhcpjdpaaGreatDoor
