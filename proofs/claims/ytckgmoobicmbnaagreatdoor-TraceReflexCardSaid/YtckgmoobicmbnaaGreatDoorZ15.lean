import Derived.Lib.LaidTab
import Derived.SizedLaws
import Derived.OpenShut
import Derived.Test.YtckgmoobicmbnaaGreatDoorZ0
import Derived.Test.YtckgmoobicmbnaaGreatDoorZ10
import Derived.Test.YtckgmoobicmbnaaGreatDoorZ13
import Derived.Test.YtckgmoobicmbnaaGreatDoorZ14
namespace Go.Proofs.YtckgmoobicmbnaaGreatDoor
set_option maxRecDepth 100000
set_option maxHeartbeats 8000000
set_option linter.all false
open Go.Proofs.Tryz
open _root_.Go renaming Value->aS,TypeId->eC,reachBytes->nJ,MemPlace->NQ,DataW->RO
open Go.DataW renaming trod->jJ,trod_int->pH,weightsEach->tR,trod_struct->Im,weights->Pk,weightsAll->mp
open Go.DataW.agg renaming injEq->XP
open Go.Deep renaming open_slice->Vy
open Go.IntKind renaming i64->aE
open Go.Proofs.Tryz renaming prog->aC,underlying3->eR,underlying4->gE,underlying52->Kl,underlying22->mq,underlying24->mr
open Go.Value renaming slice->aB,int->aD,bool->aN
open _root_.List renaming length_map->cO,mem_append_left->mV,range->vN,map_cons->Il,length_range->mo
open _root_.List.cons renaming injEq->In
open _root_.Option.some renaming inj->dQ
section
open Go Go.RowKit Go.Lib Go.Deep
section
variable{H:Type}{enc:eC×aS→H}{w:World}{base:Nat}{GW:Nat→Bool}{uA:Bool}
theorem c_sd:Tryz.prog.cellsOf 74=7:=by kernel_rfl
theorem c_ss:Tryz.prog.cellsOf 52=1:=by kernel_rfl
theorem c_rr:Tryz.prog.cellsOf 22=1:=by kernel_rfl
theorem c_pn:Tryz.prog.cellsOf 24=1:=by kernel_rfl
theorem by_sd:Tryz.prog.bytesOf 74=56:=by kernel_rfl
theorem gr{fuel:Nat}{cs:List aS}{x:RO H×List NQ}(h:jJ enc aC w base GW uA fuel 74 cs=some x):∃s:Sd,cs=s.cells.toList:=by
 obtain⟨xs,n,-,-,hl,gt,hf⟩:=Im underlying74 h;rw[c_sd]at hl;match cs,hl with
 |[v0,v1,v2,v3,v4,v5,v6],_=>
  have gt:xs.length=7:=gt;match xs,gt with
  |[x0,x1,x2,x3,x4,x5,x6],_=>
   have h0:jJ enc aC w base GW uA n 3 (([v0,v1,v2,v3,v4,v5,v6].drop 0).take (Tryz.prog.cellsOf 3))=some x0:=hf 0 _ rfl;have h1:jJ enc aC w base GW uA n 3 (([v0,v1,v2,v3,v4,v5,v6].drop 1).take (Tryz.prog.cellsOf 3))=some x1:=hf 1 _ rfl;have h2:jJ enc aC w base GW uA n 3 (([v0,v1,v2,v3,v4,v5,v6].drop 2).take (Tryz.prog.cellsOf 3))=some x2:=hf 2 _ rfl;have h3:jJ enc aC w base GW uA n 3 (([v0,v1,v2,v3,v4,v5,v6].drop 3).take (Tryz.prog.cellsOf 3))=some x3:=hf 3 _ rfl;have h4:jJ enc aC w base GW uA n 4 (([v0,v1,v2,v3,v4,v5,v6].drop 4).take (Tryz.prog.cellsOf 4))=some x4:=hf 4 _ rfl;have h5:jJ enc aC w base GW uA n 3 (([v0,v1,v2,v3,v4,v5,v6].drop 5).take (Tryz.prog.cellsOf 3))=some x5:=hf 5 _ rfl;have h6:jJ enc aC w base GW uA n 3 (([v0,v1,v2,v3,v4,v5,v6].drop 6).take (Tryz.prog.cellsOf 3))=some x6:=hf 6 _ rfl;obtain⟨i0,e0,-⟩:=pH eR (by rw[MG]at h0;exact h0);obtain⟨i1,e1,-⟩:=pH eR (by rw[MG]at h1;exact h1);obtain⟨i2,e2,-⟩:=pH eR (by rw[MG]at h2;exact h2);obtain⟨i3,e3,-⟩:=pH eR (by rw[MG]at h3;exact h3);obtain⟨b,e4,-⟩:=DataW.trod_bool gE (by rw[zc]at h4;exact h4);obtain⟨i5,e5,-⟩:=pH eR (by rw[MG]at h5;exact h5);obtain⟨i6,e6,-⟩:=pH eR (by rw[MG]at h6;exact h6);cases e0;cases e1;cases e2;cases e3;cases e4;cases e5;cases e6;exact⟨⟨i0,i1,i2,i3,b,i5,i6⟩,rfl⟩
theorem gw{fuel:Nat}{cs:List aS}{x:RO H×List NQ}(h:jJ enc aC w base (fun _=>true) uA fuel 52 cs=some x):
 ∃r:Rg,cs=[r.v]∧lE w r.a r.ss∧((∀n∈x.1.weights aC 52,n≤nJ)→r.ss.length*56≤nJ):=by
 rcases Vy Kl h with⟨rfl,-⟩|⟨a,len,cap,m,n,D,Pl,rfl,-,hl,hm,hmm,rfl,hx⟩
 ·exact⟨⟨none,0,[]⟩,rfl,fun i hi=>absurd hi (by simp),fun _=>by simp⟩
 ·rw[c_sd]at hx;obtain⟨F,hF⟩:=choose_lt (α:=Sd) (p:=fun i f=>w.cells? base (a.add (i*7)) 7=some f.cells.toList) (fun i hi=>by
   obtain⟨cs',h1,h2⟩:=hx i hi;obtain⟨f,rfl⟩:=gr h2;exact⟨f,h1⟩)
  obtain⟨ss,h1,h2⟩:=Y7 (n:=len) F;have hlm:len≤m:=by rw[hmm];simp;exact hl
  refine⟨⟨some a,cap,ss⟩,by unfold Rg.v;rw[h1],fun i hi=>?_,fun hw=>?_⟩
  ·obtain⟨b,off,e,hc⟩:=rows_at (G:=fun i=>(F i).cells) hlm (by decide) (fun i=>rfl) hF i (by rw[←h1];exact hi);refine⟨b,off,e,fun j hj=>?_⟩;rw[hc j hj];show _=some ((ss.getD i default).cells.getD j undef);rw[h2 i (by rw[←h1];exact hi)]
  ·have hm:(((vN len).map D).length+((vN (m-len)).map fun j=>D (len+j)).length)*Tryz.prog.bytesOf 74≤nJ:=hw _ (by
    simp only[Pk,Kl];exact List.mem_cons_self)
   rw[by_sd,cO,cO,mo,mo]at hm;show ss.length*56≤nJ;rw[h1];omega
theorem Es{P:Program}{e:eC}:∀{l:List (RO H)} {d:RO H},d∈l→∀n∈d.weights P e,n∈mp P e l
 |x::r,d,h,n,hn=>by
  rw[mp]
  rcases List.mem_cons.1 h with rfl|h
  ·exact mV _ hn
  ·exact List.mem_append_right _ (Es h n hn)
theorem XG{fuel:Nat}{cs:List aS}{x:RO H×List NQ}(h:jJ enc aC w base (fun _=>true) uA fuel 22 cs=some x):
 ∃(a:Option Addr)(n ca:Nat)(rs:List Rg),cs=[aB a n ca]∧rs.length=n∧n≤ca∧ca≤maxLen∧GL w a rs∧((∀k∈x.1.weights aC 22,k≤nJ)→∀r∈rs,r.ss.length*56≤nJ):=by
 rcases Vy mq h with⟨rfl,-⟩|⟨a,len,cap,m,n,D,Pl,rfl,-,hl,hm,hmm,rfl,hx⟩
 ·exact⟨none,0,0,[],rfl,rfl,Nat.le_refl _,by decide,fun i hi=>absurd hi (by simp),fun _ r hr=>absurd hr (by simp)⟩
 ·rw[c_ss]at hx;obtain⟨F,hF⟩:=choose_lt (α:=Rg) (p:=fun i r=>w.cell? (a.add i)=some r.v∧lE w r.a r.ss∧((∀n∈(D i).weights aC 52,n≤nJ)→r.ss.length*56≤nJ)) (fun i hi=>by
   obtain⟨cs',h1,h2⟩:=hx i hi;obtain⟨r,rfl,h3,h4⟩:=gw h2;obtain⟨-,-,k0⟩:=World.cells?_some h1;have k:=k0 0 (by decide);rw[Nat.mul_one]at k;exact⟨r,k,h3,h4⟩)
  obtain⟨rs,h1,h2⟩:=Y7 (n:=len) F;have hlm:len≤m:=by rw[hmm];simp;exact hl
  refine⟨some a,len,cap,rs,rfl,h1,hl,hm,fun i hi=>?_,fun hw r hr=>?_⟩
  ·have rm:i<len:=by rw[←h1];exact hi
   obtain⟨b,off,rfl⟩:=O7 (hF 0 (by omega)).1;refine⟨b,off,rfl,?_,?_⟩
   ·rw[h2 i rm];have:=(hF i (by omega)).1;rwa[addp]at this
   ·rw[h2 i rm];exact(hF i (by omega)).2.1
  ·obtain⟨i,hi,rfl⟩:=List.getElem_of_mem hr;rw[show rs[i]=rs.getD i default by simp[List.getD_eq_getElem?_getD,hi],h2 i (by omega)];refine(hF i (by omega)).2.2 fun k hk=>hw k ?_;simp only[Pk,mq];exact List.mem_cons_of_mem _ (mV _ (Es (List.mem_map.2 ⟨i,List.mem_range.2 (by omega),rfl⟩) k hk))
theorem gz{fuel:Nat}{cs:List aS}{x:RO H×List NQ}(h:jJ enc aC w base (fun _=>true) uA fuel 24 cs=some x)(hw:∀k∈x.1.weights aC 24,k≤nJ):
 ∃(a:Option Addr)(n ca:Nat)(rs:List Rg),cs=[aB a n ca]∧rs.length=n∧n≤ca∧ca≤maxLen∧GL w a rs∧∀r∈rs,r.ss.length*56≤nJ:=by
 obtain⟨xs,n,-,rfl,hl,gt,hf⟩:=Im mr h;rw[c_pn]at hl;match cs,hl with
 |[v0],_=>
  have gt:xs.length=1:=gt;match xs,gt with
  |[x0],_=>
   have h0:jJ enc aC w base (fun _=>true) uA n 22 (([v0].drop 0).take (Tryz.prog.cellsOf 22))=some x0:=hf 0 _ rfl;rw[c_rr]at h0;obtain⟨a,n',ca,rs,e,h1,h2,h3,h4,h5⟩:=XG h0;have e:[v0]=[aB a n' ca]:=e;refine⟨a,n',ca,rs,e,h1,h2,h3,h4,h5 fun k hk=>hw k ?_⟩;simp only[Pk,mr];show k∈tR aC [22] [x0.1];simp only[tR,List.append_nil];exact hk
end
def zd:String:=String.ofList ([107,105,110,103,112,111,115,116,47,102,114,111,110,116,46,100,105,114,101,99,116,105,111,110,115].map Char.ofNat)
def UD(u:Bool)(d:Int):RO Unit:=DataW.agg [DataW.lit (Lit.bool u),DataW.lit (Lit.int aE d)]
theorem c_dr:Tryz.prog.cellsOf 175=2:=by kernel_rfl
theorem c_dt:Tryz.prog.cellsOf 176=8:=by kernel_rfl
theorem DD{H:Type}{enc:eC×aS→H}{w:World}{base:Nat}{sp:Nat→Bool}{uA:Bool}{fuel:Nat}{cs:List aS}{x:RO H×List NQ}{u:Bool}{d:Int}
 (h:jJ enc aC w base sp uA fuel 175 cs=some x)(hx:x.1=DataW.agg [DataW.lit (Lit.bool u),DataW.lit (Lit.int aE d)]):cs=[aN u,aD aE d]:=by
 obtain⟨xs,n,-,rfl,hl,gt,hf⟩:=Im underlying175 h;rw[c_dr]at hl;match cs,hl with
 |[v0,v1],_=>
  have gt:xs.length=2:=gt;match xs,gt with
  |[x0,x1],_=>
   have h0:jJ enc aC w base sp uA n 4 (([v0,v1].drop 0).take (Tryz.prog.cellsOf 4))=some x0:=hf 0 _ rfl;have h1:jJ enc aC w base sp uA n 3 (([v0,v1].drop 1).take (Tryz.prog.cellsOf 3))=some x1:=hf 1 _ rfl;obtain⟨b,e0,k0⟩:=DataW.trod_bool gE (by rw[zc]at h0;exact h0);obtain⟨i,e1,k1,-⟩:=pH eR (by rw[MG]at h1;exact h1);subst k0 k1;simp only[Il,List.map_nil,XP,In,DataW.lit.injEq,Lit.bool.injEq,Lit.int.injEq,and_true,true_and]at hx;cases e0;cases e1;rw[hx.1,hx.2]
theorem dir_of{W:World}{rest:List (String×RO Unit)}(hg:Tryz.prog.globalNamed zd=some 0)(hty:(Tryz.prog.globals[0]?).map (·.type)=some 176)
 (h:laidMet aC ((zd,DataW.agg [UD false 1,UD true (-1),UD false (-1),UD true 1])::rest) W):Qy W:=by
 obtain⟨ps,⟨g',t',cs,fuel,p,q,hg',ht',hvar,hd,_,_⟩,_⟩:=h;obtain rfl:=dQ (hg.symm.trans hg');obtain rfl:=dQ (hty.symm.trans ht');obtain⟨xs,n,-,e,hl,gt,hf⟩:=DataW.trod_array underlying176 hd;rw[c_dt]at hl;rw[c_dr]at hf;match xs,gt with
 |[x0,x1,x2,x3],_=>
  simp only[Il,List.map_nil,Prod.mk.injEq,XP,In,and_true]at e;obtain⟨⟨e0,e1,e2,e3⟩,-⟩:=e;have k0:=DD (hf 0 (by decide)) e0.symm;have k1:=DD (hf 1 (by decide)) e1.symm;have k2:=DD (hf 2 (by decide)) e2.symm;have k3:=DD (hf 3 (by decide)) e3.symm;have Fy:cs.toList=[aN false,aD aE 1,aN true,aD aE (-1),aN false,aD aE (-1),aN true,aD aE 1]:=by
   match hcl:cs.toList,hl with
   |[v0,v1,v2,v3,v4,v5,v6,v7],_=>
    rw[hcl]at k0 k1 k2 k3;simp only[Nat.zero_mul,Nat.one_mul,List.drop_zero,List.take_succ_cons,List.take_zero,List.drop_succ_cons,In,and_true,Nat.reduceMul]at k0 k1 k2 k3;rw[k0.1,k0.2,k1.1,k1.2,k2.1,k2.2,k3.1,k3.2]
  intro h4 hh;have hc:=fun i=>World.var?_cell hg hvar i;have hg':∀i,cs[i]? =cs.toList[i]? :=fun i=>by rw[Array.getElem?_toList]
  rw[hc,hc,hg',hg',Fy];obtain rfl|rfl|rfl|rfl:h4=0∨h4=1∨h4=2∨h4=3:=by omega
  all_goals exact⟨rfl,rfl⟩
end
end Go.Proofs.YtckgmoobicmbnaaGreatDoor
