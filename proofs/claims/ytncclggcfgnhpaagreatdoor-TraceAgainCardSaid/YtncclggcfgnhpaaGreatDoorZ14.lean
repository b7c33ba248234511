import Derived.Test.YtncclggcfgnhpaaGreatDoorZ13
namespace Go.Proofs.YtncclggcfgnhpaaGreatDoor
set_option maxRecDepth 100000
set_option maxHeartbeats 8000000
set_option linter.all false
open Go.Proofs.Tryz
open _root_.Bool renaming true->ι,false->ν
open _root_.Go renaming Value->χ,TypeId->cS,reachBytes->oT,laidMetH->JG
open Go.DataW renaming weightsEach->vU,trod_int->oS
open Go.MakeChecks renaming laidMetH_plain->yW
open Go.OpenSpec renaming ofChange->yM
open Go.Proofs.Tryz renaming prog->γ,underlying5->pG,checked->Yi,f3->fe
open Go.Value renaming cells->dp
open Go.Value.int renaming injEq->ff
open _root_.List.cons renaming injEq->AZ
variable{W:World}
section
open Go Go.RowKit Go.Lib Go.ChangeShapes Go.WideShapes
theorem aM0(hL:JG γ Rows.traceAgainRow.laid W)(hS:W.ShapedOpen γ):mV W:=by
 constructor
 .have h:=hL.filter (fun x=>x.1==ab6);have e:(Rows.traceAgainRow.laid.filter fun x=>x.1==ab6)=[(ab6,Lib.tabData .u64 Lib.pow10Tab)]:=by
   rw[<-aL8];kernel_rfl
  rw[e,yW _ _ _ kF]at h;exact tabIs_of_head (g:=1) (t:=317) (e:=248) (n:=20) kF kF kF kF kF kF h
 .exact cell_of_shapedOpen_int (t:=3) (zero:=#[.int .i64 0]) hS (of_decide_eq_true kF) kF kF kF kF kF
theorem aw6(hL:JG γ Rows.traceAgainRow.laid W):KH W:=by
 have h:=hL.filter (fun x=>x.1==aw3);have e:(Rows.traceAgainRow.laid.filter fun x=>x.1==aw3)=[(aw3,DataW.agg [XP ν 1,XP ι (-1),XP ν (-1),XP ι 1])]:=kF;rw[e,yW _ _ _ kF]at h;exact ba6 kF kF h
theorem Ff:Tryz.f3.params= #[24,5,5]:=kF
theorem ze{H:Type}{enc:cS×χ->H}{cH:Nat}{args:Array χ}{ds gs:List (DataW H)}{KS:List MemPlace}(Ji:∀(j:Nat)t v,Tryz.f3.params[j]? =some t->args[j]? =some v->Value.okWide γ W .any cH t v)(hW:DataW.Whole enc γ Tryz.f3.params.toList Rows.traceAgainSpec.vars ν W args.toList ds gs KS)(hz:(vU γ (Tryz.f3.params.toList++(yM Rows.traceAgainSpec).bare.plain.varTypes γ) (ds++gs)).all (·<=oT)=ι)(hL:JG γ Rows.traceAgainRow.laid W)(hS:W.ShapedOpen γ):
 Calls γ 3 args W fun e W'=>∃v,e=.returned v/\Rows.traceAgainSpec.post enc γ fe ν ι ν ν W args v W':=by
 have hE:=aM0 hL hS;have hD:=aw6 hL;have hlt:=fun p hp=>DataW.Whole.lt hW p hp;have fI:=hW;obtain⟨p,q,hA,hV,rfl,-,-⟩:=hW;rw[Ff]at hA Ji hz;obtain⟨rfl,rfl⟩:=trodVars_none hV;obtain⟨v0,vs0,x0,ds0,p0,q0,ea0,rfl,rfl,h0,hA0⟩:=trodAll_cons hA;clear hA;obtain⟨v1,vs1,x1,ds1,p1,q1,rfl,rfl,rfl,h1,Yw⟩:=trodAll_cons hA0;clear hA0;obtain⟨v2,vs2,x2,ds2,p2,q2,rfl,rfl,rfl,h2,hA2⟩:=trodAll_cons Yw;clear Yw;obtain⟨rfl,rfl,rfl⟩:=trodAll_nil hA2;obtain⟨args⟩:=args;simp only[]at ea0;subst ea0;have hv:=Ji 0 24 v0 rfl rfl;unfold Value.okWide at hv;rw[underlying24]at hv;obtain⟨cs0,rfl,-,-⟩:=hv;obtain⟨i1,rfl⟩:=okWide_int pG (Ji 1 _ v1 rfl rfl);have g1:=h1;obtain⟨n1,t1⟩:=h1;obtain⟨j1,c1,-,hi1⟩:=oS pG t1;simp only[dp,AZ,ff,and_true,true_and]at c1;subst c1;obtain⟨st,xZ,hb1⟩:=aw4 hi1;subst xZ;obtain⟨i2,rfl⟩:=okWide_int pG (Ji 2 _ v2 rfl rfl);have g2:=h2;obtain⟨n2,t2⟩:=h2;obtain⟨j2,c2,-,hi2⟩:=oS pG t2;simp only[dp,AZ,ff,and_true,true_and]at c2;subst c2;obtain⟨fm,hs2,hb2⟩:=aw4 hi2;subst hs2;have g0:=h0;obtain⟨n0,t0⟩:=h0;obtain⟨a,n,ca,rs,c0,hl,hca,Ut,rr,hrs⟩:=zc t0 (fun k hk=>of_decide_eq_true (List.all_eq_true.1 hz k (by
  show k∈vU γ (24::_) (x0::_);rw[vU];exact List.mem_append_left _ hk)))
 obtain⟨cs0⟩:=cs0;have c0:cs0=[.slice a n ca]:=c0;subst c0;have tY:n<=40->bY (aF rs) n<=9223372036854775807:=fun h40=>by
  have key:∀k,k<=n->bY (aF rs) k<=k*140737488351232:=by
   intro k;induction k with
   |zero=>intro _;simp[bY]
   |succ k ih=>
    intro hk;have h1:=ih oM;have h2:(aF rs k).length*56<=oT:=hrs _ (aN oM default);have h3:oT=140737488351232:=rfl;rw[bY,Nat.succ_mul];omega
  have:=key n (Nat.le_refl _);have h5:n*140737488351232<=40*140737488351232:=Nat.mul_le_mul_right _ h40;omega
 have hw:=OO a n ca rs st fm W hE hD hl tY (by unfold maxLen at Ut;omega) rr hb1 hb2;refine hw.mono ?_;rintro e W'⟨rfl,hb⟩;have row:∀(t:cS)(v:χ)(d:DataW H)(ps:List MemPlace),Tryz.prog.readableRec t=ι->t<Tryz.prog.types.size->DataW.Trod enc γ W 0 (fun _=>ι) ι t v d ps->(∀x∈ps,x.block<W.heap.size)->DataW.Trod enc γ W' 0 (fun b=>decide (b<W.heap.size)) ι t v d ps:=fun t v d ps hr ht h hlt=>
  Below.trod db hr ht h hb hlt
 refine⟨_,rfl,_,_,_,[],p0++(p1++(p2++[])),[],fI,?_,?_,rfl,hb.frame _,fun h=>by cases h⟩
 .exact trodAll_mk1 (shut_bool underlying4 _)
 .show DataW.TrodAll enc γ W' 0 _ ι Tryz.f3.params.toList _ [x0,x1,x2] _;rw[Ff];exact⟨p0,_,row _ _ _ _ kF (of_decide_eq_true kF) g0 (fun x hx=>hlt x (by simp[hx])),⟨p1,_,row _ _ _ _ kF (of_decide_eq_true kF) g1 (fun x hx=>hlt x (by simp[hx])),⟨p2,[],row _ _ _ _ kF (of_decide_eq_true kF) g2 (fun x hx=>hlt x (by simp[hx])),rfl,rfl⟩,rfl⟩,rfl⟩
theorem zg(os args):JG γ Rows.traceAgainRow.laid ((World.laidAll γ os Rows.traceAgainRow.laid).forCall (fun _ _=>0) ⟨#[],args,[]⟩).memory:=by
 rw[yW _ _ _ kF];exact laidMet_laidAll args kF kF
theorem aM1(os:Os)(Jm:os.Started)(H:Type)(enc:cS×χ->H):
 ReturnsInHanded {} Yi os 3 .any (fun w args=>(Rows.traceAgainSpec.pre enc γ fe [] ν w args/\JG γ Rows.traceAgainRow.laid w)/\sizedMet enc γ fe (yM Rows.traceAgainSpec) ν w args)
  (Rows.traceAgainSpec.post enc γ fe ν ι ν ν):=by
 refine Qc (C:=Yi) (X:=fun w _=>JG γ Rows.traceAgainRow.laid w) (fun _ _ _ hh h=>h.of_heap hh) ba7 Jm kF func3
  (ChangeSpec.witness_shaped (enc:=enc) (C:=Yi) (os:=os) (X:=fun w _=>JG γ Rows.traceAgainRow.laid w) ν (World.laidAll γ os Rows.traceAgainRow.laid) #[.agg #[.slice none 0 0],.int .u8 0,.int .u8 0] 8 (World.laidAll_os _ _ _)
   (World.shaped_of_ZipB kF kF) kF kF kF (zg os _)) ?_
 intro W cH args ds gs KS Ji hW hz hL hS;exact ze Ji hW hz hL hS
end
end Go.Proofs.YtncclggcfgnhpaaGreatDoor
