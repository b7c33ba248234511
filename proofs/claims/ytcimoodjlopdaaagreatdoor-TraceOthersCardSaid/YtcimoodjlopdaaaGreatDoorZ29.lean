import Derived.Test.YtcimoodjlopdaaaGreatDoorRows
import Derived.Test.YtcimoodjlopdaaaGreatDoorCards
import Derived.Test.YtcimoodjlopdaaaGreatDoorTie
import Derived.ProofKit
import Derived.Lay
import Derived.LaidSub
import Derived.Carry
import Derived.OpenShut
import Derived.HandedShaped
import Derived.MakeChecks
import Derived.Shelf.Vars
import Derived.SevenTiedAt
import Derived.Test.YtcimoodjlopdaaaGreatDoorZ0
import Derived.Test.YtcimoodjlopdaaaGreatDoorZ28
namespace Go.Proofs.YtcimoodjlopdaaaGreatDoor
set_option maxRecDepth 100000
set_option maxHeartbeats 8000000
set_option linter.all false
open Go.Proofs.Tryz
open Go renaming World->aE,Value->bB,maxLen->cA,TypeId->Ii,laidMetH->MW,MemPlace->Nx
open Go.DataW renaming trod_string->uT
open Go.Ending renaming returned->aO
open Go.MakeChecks renaming laidMetH_plain->JZ
open Go.OpenSpec renaming ofChange->Ds
open Go.Proofs.Tryz renaming prog->aC,underlying3->gM,underlying24->nH,checked->Uo,f3->WE
open Option.some renaming inj->vI
section
open Go Go.RowKit Go.Lib Go.ChangeShapes Go.WideShapes
theorem zz_own:ownKnob Tryz.prog.godebug=none:=by kernel_rfl
theorem Wk:laidOutB aC=true:=by kernel_rfl
theorem pow_tab:(Rows.laid_internal_strconv_uint64pow10:DataW Unit)=Lib.tabData .u64 Lib.pow10Tab:=by kernel_rfl
theorem env_of{W:aE}(hL:MW aC Rows.traceOthersRow.laid W)(hS:W.ShapedOpen aC):eZ W:=by
 constructor
 ·have h:=hL.filter (fun x=>x.1==fj);have e:(Rows.traceOthersRow.laid.filter fun x=>x.1==fj)=[(fj,Lib.tabData .u64 Lib.pow10Tab)]:=by
   rw[←pow_tab];kernel_rfl
  rw[e,JZ _ _ _ (by kernel_rfl)]at h;exact tabIs_of_head (g:=2) (t:=322) (e:=256) (n:=20) (by kernel_rfl) (by kernel_rfl) (by kernel_rfl) (by kernel_rfl) (by kernel_rfl) (by kernel_rfl) h
 ·exact cell_of_shapedOpen_int (t:=3) (zero:= #[.int .i64 0]) hS (of_decide_eq_true (by kernel_rfl)) (by kernel_rfl) (by kernel_rfl) (by kernel_rfl) (by kernel_rfl) (by kernel_rfl)
theorem Qk{H:Type}{enc:Ii×bB→H}{a:Assume}{C:Checked}{os:Os}{f:FuncId}{fn:Func}{s:ChangeSpec}{conds:List PathCond}{apart fresh X0 again:Bool}{X:aE→Array bB→Prop}
 (hX:∀(w w':aE)(args:Array bB),w.heap=w'.heap→X w args→X w' args)
 (own:ownKnob C.prog.godebug=none)(G8:os.Started)(noInit:C.prog.inits.idxOf? f=none)(YQ:C.prog.funcs[f]? =some fn)
 (witness:∃(w:aE)(tape:Tape)(i:Input),w.os=os∧(w.forCall tape i).Shaped C.prog∧i.vars=[]∧Input.okWide C.prog (w.forCall tape i) .any w.heap.size f i∧
  ((s.pre enc C.prog fn conds apart (w.forCall tape i).memory i.args∧X (w.forCall tape i).memory i.args)∧sizedMet enc C.prog fn (Ds s) apart (w.forCall tape i).memory i.args)∧a.holds C.prog (lone (Frame.enter C.prog f i.args .normal) [] (w.forCall tape i)))
 (rg:∀(W:aE)(base:Nat)(args:Array bB)(ds gs:List (DataW H))(I2:List Nx),(∀(j:Nat)t v,fn.params[j]? =some t→args[j]? =some v→Value.okWide C.prog W .any base t v)→
  DataW.Whole enc C.prog fn.params.toList s.vars apart W args.toList ds gs I2→X W args→W.ShapedOpen C.prog→
  Calls C.prog f args W fun e W'=>∃v,e=aO v∧s.post enc C.prog fn apart fresh X0 again W args v W'):
 ReturnsInHanded a C os f .any (fun w args=>(s.pre enc C.prog fn conds apart w args∧X w args)∧sizedMet enc C.prog fn (Ds s) apart w args) (s.post enc C.prog fn apart fresh X0 again):=by
 refine returnsInHanded_of_calls own G8 noInit witness ?_;intro w tape i _ hsh _ hok LU _;obtain⟨_,_,_,fn',hfn',_,_,_,_,Bu⟩:=hok;have e:fn'=fn:=vI (hfn'.symm.trans YQ);subst e;obtain⟨⟨⟨ds,gs,I2,hw,_⟩,hx⟩,_⟩:=LU;have hw':=DataW.Whole.of_heap (w':=w.forCall tape i) (by rfl) hw;refine(rg (w.forCall tape i) w.heap.size i.args ds gs I2 Bu hw' (hX _ _ _ (by rfl) hx) hsh).mono fun e W'⟨v,he,hp⟩=>?_;subst he;exact ChangeSpec.post_blind hp
theorem Fx:Tryz.f3.params= #[22,23,24,24,3]:=by kernel_rfl
theorem rh{H:Type}{enc:Ii×bB→H}{W:aE}{base:Nat}{args:Array bB}{ds gs:List (DataW H)}{I2:List Nx}
 (Bu:∀(j:Nat)t v,Tryz.f3.params[j]? =some t→args[j]? =some v→Value.okWide aC W .any base t v)
 (hW:DataW.Whole enc aC Tryz.f3.params.toList Rows.traceOthersSpec.vars false W args.toList ds gs I2)(hL:MW aC Rows.traceOthersRow.laid W)(hS:W.ShapedOpen aC):
 Calls aC 3 args W fun e W'=>∃v,e=aO v∧Rows.traceOthersSpec.post enc aC WE false true false false W args v W':=by
 have hE:=env_of hL hS;have hlt:=fun p hp=>DataW.Whole.lt hW p hp;have iU:=hW;obtain⟨p,q,hA,hV,rfl,-,-⟩:=hW;rw[Fx]at hA Bu;obtain⟨rfl,rfl⟩:=trodVars_none hV;obtain⟨v0,vs0,x0,ds0,p0,q0,ea0,rfl,rfl,h0,hA0⟩:=trodAll_cons hA;clear hA;obtain⟨v1,vs1,x1,ds1,p1,q1,rfl,rfl,rfl,h1,hA1⟩:=trodAll_cons hA0;clear hA0;obtain⟨v2,vs2,x2,ds2,p2,q2,rfl,rfl,rfl,h2,QN⟩:=trodAll_cons hA1;clear hA1;obtain⟨v3,vs3,x3,ds3,p3,q3,rfl,rfl,rfl,h3,WV⟩:=trodAll_cons QN;clear QN;obtain⟨v4,vs4,x4,ds4,p4,q4,rfl,rfl,rfl,h4,hA4⟩:=trodAll_cons WV;clear WV;obtain⟨rfl,rfl,rfl⟩:=trodAll_nil hA4;obtain⟨args⟩:=args;simp only[]at ea0;subst ea0;obtain⟨a,n,ca,rfl⟩:=okWide_slice underlying22 (Bu 0 _ v0 rfl rfl);obtain⟨b,m,cb,rfl⟩:=okWide_slice underlying23 (Bu 1 _ v1 rfl rfl);obtain⟨z,rfl⟩:=okWide_string nH (Bu 2 _ v2 rfl rfl);obtain⟨y,rfl⟩:=okWide_string nH (Bu 3 _ v3 rfl rfl);obtain⟨i,rfl⟩:=okWide_int gM (Bu 4 _ v4 rfl rfl);have g0:=h0;have g1:=h1;have g2:=h2;have g3:=h3;have g4:=h4;obtain⟨n0,t0⟩:=h0;obtain⟨n1,t1⟩:=h1;obtain⟨n2,t2⟩:=h2;obtain⟨n3,t3⟩:=h3;obtain⟨n4,t4⟩:=h4;obtain⟨a',n',ca',fs,c0,hf,hca,hcm,rf⟩:=TM t0;obtain⟨b',m',cb',ls,c1,hl,hcb,hcm2,rl⟩:=Wj t1;obtain⟨z',c2,-,hz⟩:=uT nH t2;obtain⟨y',c3,-,hy⟩:=uT nH t3;obtain⟨i',c4,-,hi⟩:=DataW.trod_int gM t4;simp only[Value.cells,List.cons.injEq,Value.slice.injEq,Value.string.injEq,Value.int.injEq,and_true,true_and]at c0 c1 c2 c3 c4;obtain⟨rfl,rfl,rfl⟩:=c0;obtain⟨rfl,rfl,rfl⟩:=c1;subst c2 c3 c4;have Ut:z.data.toList.length≤9223372036854775807:=by have:z.data.toList.length=z.size:=rfl;unfold cA at hz;omega
 have hy':y.data.toList.length≤9223372036854775807:=by have:y.data.toList.length=y.size:=rfl;unfold cA at hy;omega
 have hi1: -9223372036854775808≤i∧i≤9223372036854775807:=by
  have h:(decide (IntKind.i64.min≤i)&&decide (i≤IntKind.i64.max))=true:=hi;rw[Bool.and_eq_true,decide_eq_true_eq,decide_eq_true_eq]at h;exact h
 have hw:=Kn a b n m ca cb fs ls z.data.toList y.data.toList i W hE hf hl (by unfold cA at hcm;omega) (by unfold cA at hcm2;omega) hca Ut hy' hi1.1 hi1.2 rf rl;rw[KK,KK]at hw;refine hw.mono ?_;rintro e W'⟨rfl,hb⟩;have uJ:∀(t:Ii)(v:bB)(d:DataW H)(ps:List Nx),Tryz.prog.readableRec t=true→t<Tryz.prog.types.size→DataW.Trod enc aC W 0 (fun _=>true) true t v d ps→(∀x∈ps,x.block<W.heap.size)→DataW.Trod enc aC W' 0 (fun b=>decide (b<W.heap.size)) true t v d ps:=fun t v d ps hr ht h hlt=>
  Below.trod Wk hr ht h hb hlt
 refine⟨_,rfl,_,_,_,[],p0++(p1++(p2++(p3++(p4++[])))),[],iU,?_,?_,rfl,hb.frame _,fun h=>by cases h⟩
 ·exact trodAll_mk1 (shut_bool underlying4 _)
 ·show DataW.TrodAll enc aC W' 0 _ true Tryz.f3.params.toList _ [x0,x1,x2,x3,x4] _;rw[Fx];exact⟨p0,_,uJ _ _ _ _ (by kernel_rfl) (of_decide_eq_true (by kernel_rfl)) g0 (fun x hx=>hlt x (by simp[hx])),
   ⟨p1,_,uJ _ _ _ _ (by kernel_rfl) (of_decide_eq_true (by kernel_rfl)) g1 (fun x hx=>hlt x (by simp[hx])),
   ⟨p2,_,uJ _ _ _ _ (by kernel_rfl) (of_decide_eq_true (by kernel_rfl)) g2 (fun x hx=>hlt x (by simp[hx])),
   ⟨p3,_,uJ _ _ _ _ (by kernel_rfl) (of_decide_eq_true (by kernel_rfl)) g3 (fun x hx=>hlt x (by simp[hx])),
   ⟨p4,[],uJ _ _ _ _ (by kernel_rfl) (of_decide_eq_true (by kernel_rfl)) g4 (fun x hx=>hlt x (by simp[hx])),rfl,rfl⟩,rfl⟩,rfl⟩,rfl⟩,rfl⟩
theorem ri(os:Os)(args:Array bB):MW aC Rows.traceOthersRow.laid ((World.laidAll aC os Rows.traceOthersRow.laid).forCall (fun _ _=>0) ⟨#[],args,[]⟩).memory:=by
 rw[JZ _ _ _ (by kernel_rfl)];exact laidMet_laidAll args (by kernel_rfl) (by kernel_rfl)
theorem lifted(os:Os)(G8:os.Started)(H:Type)(enc:Ii×bB→H):
 ReturnsInHanded {} Uo os 3 .any (fun w args=>(Rows.traceOthersSpec.pre enc aC WE [] false w args∧MW aC Rows.traceOthersRow.laid w)∧sizedMet enc aC WE (Ds Rows.traceOthersSpec) false w args)
  (Rows.traceOthersSpec.post enc aC WE false true false false):=by
 refine Qk (C:=Uo) (X:=fun w _=>MW aC Rows.traceOthersRow.laid w) (fun _ _ _ hh h=>h.of_heap hh) zz_own G8 (by kernel_rfl) func3
  (ChangeSpec.witness_shaped (enc:=enc) (C:=Uo) (os:=os) (X:=fun w _=>MW aC Rows.traceOthersRow.laid w) false (World.laidAll aC os Rows.traceOthersRow.laid) #[.slice none 0 0,.slice none 0 0,.string ⟨#[]⟩,.string ⟨#[]⟩,.int .i64 0] 8 (World.laidAll_os _ _ _)
   (World.shaped_of_ZipB (by kernel_rfl) (by kernel_rfl)) (by kernel_rfl) (by kernel_rfl) (by kernel_rfl) (ri os _)) ?_
 intro W base args ds gs I2 Bu hW hL hS;exact rh Bu hW hL hS
end
end Go.Proofs.YtcimoodjlopdaaaGreatDoor
