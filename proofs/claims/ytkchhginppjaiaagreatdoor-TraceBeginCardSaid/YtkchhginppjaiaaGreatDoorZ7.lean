import Derived.Maps.AppendAt
import Derived.Test.YtkchhginppjaiaaGreatDoorZ0
import Derived.Test.YtkchhginppjaiaaGreatDoorZ6
namespace Go.Proofs.YtkchhginppjaiaaGreatDoor
set_option maxRecDepth 100000
set_option maxHeartbeats 8000000
set_option linter.all false
open Go.Proofs.Tryz
open _root_.Array renaming getElem?_eq_getElem->mJ,getElem_mem->pw
open _root_.Go renaming World->aF,Value->aP,Program->dN,TypeId->dT,getD_set_ne->fN,Oper->fX,Act->mI,Exit->A5,execOp->AS,getD_replicate_false->Oe
open Go.Oper renaming semAt_plain->qZ,wpIn->sP
open Go.Region renaming ready->cU,wanted->eK,Mode->gU,binds->sM
open Go.Sem renaming run_pure->Nj
section
open Go Go.RowKit
section
variable{P:dN}{cM:Array fX}{md:gU}{Q:A5→mI→aF→Prop}{m:Nat}{F:Fence}
def Ez(md:gU)(cM:Array fX)(i:Nat):List Nat:=match cM[i]? with
 |some o=>(o.after.toList.filter (sM md)).map (·.on)
 |none=>[]
def backB(md:gU)(cM:Array fX):Bool:=(List.range cM.size).all fun i=>(Ez md cM i).all fun k=>decide (k<i)
theorem Da{L:Array Bool}{i:Nat}{o:fX}(ho:cM[i]? =some o):(∀e∈o.after,sM md e=true→L.getD e.on false=true)↔∀k∈Ez md cM i,L.getD k false=true:=by
 unfold Ez;rw[ho];simp only[List.mem_map,List.mem_filter,Array.mem_toList_iff];constructor
 ·rintro h k⟨e,⟨h1,h2⟩,rfl⟩;exact h e h1 h2
 ·intro h e h1 h2;exact h _ ⟨e,⟨h1,h2⟩,rfl⟩
theorem all_done{L:Array Bool}(hs:L.size=cM.size)(hb:backB md cM=true)(h:cU md cM L=[]):∀j,j<cM.size→L.getD j false=true:=by
 intro j;induction j using Nat.strongRecOn with
 |_ j ih=>
  intro hj;cases e:L.getD j false with
  |true=>rfl
  |false=>
   have:j∈cU md cM L:=by
    refine mem_ready.2 ⟨getD_in (by omega) e,cM[j],mJ hj,(Da (mJ hj)).2 fun k hk=>?_⟩;have:=List.all_eq_true.1 (List.all_eq_true.1 hb j (List.mem_range.2 hj)) k hk;have hlt:=of_decide_eq_true this;exact ih k hlt (by omega)
   rw[h]at this;cases this
theorem set_getD{L:Array Bool}{i:Nat}(hi:i<L.size):(fun j=>(L.setIfInBounds i true).getD j false)=fun j=>if j=i then true else L.getD j false:=by
 funext j;by_cases e:j=i
 ·subst e;simp[hi]
 ·rw[iN e,fN false (Ne.symm e)]
theorem Pm(I:(Nat→Bool)→mI→aF→Prop)(hb:backB md cM=true)
 (stp:∀d a w i o,cM[i]? =some o→I d a w→d i=false→(∀k∈Ez md cM i,d k=true)→(∀j,d j=true→∀k∈Ez md cM j,d k=true)→∀K:mI→aF→Prop,(∀a' w',I (fun j=>if j=i then true else d j) a' w'→K a' w')→
  if eK o (yielded cM a.tmps)=true then sP F m P o a w K Q else(∀f,o.about P w a.eval=some f→F.fn f)∧K (a.put o.dst undef) w)
 (fin:∀d a w,I d a w→(∀j,j<cM.size→d j=true)→Q .normal a w):
 ∀(f:Nat)(L:Array Bool)(a:mI)(w:aF),L.size=cM.size→(∀j,L.getD j false=true→∀k∈Ez md cM j,L.getD k false=true)→L.countP (fun b=> !b)≤f→I (fun j=>L.getD j false) a w→wpAnyIn F m P md cM Q f L a w
 |0,L,a,w,hs,_,hc,hI=>by
  have h0:∀j,j<cM.size→L.getD j false=true:=fun j hj=>by
   have:=Array.countP_eq_zero.1 (Nat.le_zero.1 hc) L[j] (pw _)
   simpa[hs,hj]using this
  refine⟨List.eq_nil_iff_forall_not_mem.2 fun i hi=>?_,fin _ a w hI h0⟩
  obtain⟨h1,o,h2,-⟩:=mem_ready.1 hi
  have:=h0 i (Array.getElem?_eq_some_iff.1 h2).1
  rw[getD_both h1]at this
  cases this
 |f+1,L,a,w,hs,hcl,hc,hI=>by
  refine⟨fun h=>fin _ a w hI (all_done hs hb h),fun i hi=>?_⟩
  obtain⟨h1,o,h2,h3⟩:=mem_ready.1 hi
  have hlt:i<L.size:=by rw[hs];exact(Array.getElem?_eq_some_iff.1 h2).1
  have hk:=stp _ a w i o h2 hI (getD_both h1) ((Da h2).1 h3) hcl (wpAnyIn F m P md cM Q f (L.setIfInBounds i true)) (fun a' w' h=>by
   rw[←set_getD hlt]at h
   refine Pm I hb stp fin f _ a' w' (by simpa using hs) (fun j hj k hk=>?_) ?_ h
   ·by_cases e:i=j
    ·subst e;exact getD_set_true ((Da h2).1 h3 k hk)
    ·rw[fN false e]at hj
     exact getD_set_true (hcl j hj k hk)
   have hb1:L[i]=false:=by simpa[hlt]using h1
   have hset:L.setIfInBounds i true=L.set i true hlt:=by simp[Array.setIfInBounds,hlt]
   have h1:0<L.countP (fun b=> !b):=Array.countP_pos_iff.2 ⟨L[i],pw _,by simp[hb1]⟩
   rw[hset,Array.countP_set]
   simp[hb1]
   omega)
  unfold wpOpIn
  rw[h2]
  exact hk
theorem Jc{id:Nat}{w:World}{a:Act}{l:Nat}(I:(Nat→Bool)→Act→World→Prop)(hI:I (fun _=>false) a w.drew)
 (stp:∀d a w i o,cM[i]? =some o→I d a w→d i=false→(∀k∈Ez .any cM i,d k=true)→(∀j,d j=true→∀k∈Ez .any cM j,d k=true)→∀K:Act→World→Prop,(∀a' w',I (fun j=>if j=i then true else d j) a' w'→K a' w')→
  if Region.wanted o (yielded cM a.tmps)=true then Oper.wpIn Fence.wide m P o a w K (iM Q)else(∀f,o.about P w a.eval=some f→Fence.wide.fn f)∧K (a.put o.dst undef) w)
 (fin:∀d a w,I d a w→(∀j,j<cM.size→d j=true)→Q .normal a w)
 (hm:P.follows .mixedOrders=true:=by kernel_rfl)(hd:Ba cM=true:=by kernel_rfl)(hb:backB .any cM=true:=by kernel_rfl):(Code.region id cM true).wpIn (Fence.wide.inRound l) m P Q a w:=
 wpIn_mono (Bb hm hd (Pm I hb stp (fun d a w h k=>iM.normal (fin d a w h k)) _ _ a _ (by simp) (fun j hj=>by rw[getD_replicate_false]at hj;cases hj) (Nat.le_trans Array.countP_le_size (by simp)) (by
  have:(fun j=>(Array.replicate cM.size false).getD j false)=fun _=>false:=by funext j;exact getD_replicate_false _ _
  rw[this];exact hI))) iM.imp
end
theorem Jd{F:Fence}{nF:Nat}{P:dN}{w:aF}{o:fX}{a:mI}{K:mI→aF→Prop}{Q:A5→mI→aF→Prop}(s x:Operand)(t:dT)
 (ho:o.op=.call {callee:=.builtin .append,args:= #[s,x],argTypes:= #[t,t]})
 (cL:Nat)(e:dT)(i:TypeInfo)(z:aP)(size bytes:Nat)(ht:P.underlying t=some (TypeDesc.slice e))(hi:P.info? e=some i)(hz:i.zero=some z)
 (uu:i.size=size)(hby:i.bytes=bytes)(hzs:z.cells.size=size)(BX:0<size)
 (v:aP)(n:Nat)(xs:List aP)(hs:a.eval s=v)(dI:w.ownsRow cL e size v n xs)
 (ad:Addr)(m c:Nat)(DU:List aP)(hx:a.eval x=.slice (some ad) m c)(hl:DU.length=m*size)(hnews:∀j u,DU[j]? =some u→w.cell? (ad.add j)=some u)(h1:∀u∈DU,u.oneCell'=true)
 (Np:n+m≤maxLen)(Wx:(n+m)*bytes≤140737488355328)(jH:cL≤w.heap.size)
 (h:∀v' w',w'.ownsRow cL e size v' (n+m) (xs++DU)→w.grownBy w' v.ownBlock→K (a.put o.dst v') w'):sP F nF P o a w K Q:=by
 obtain⟨v',w',hr,h2,h3,h4,h5⟩:=run_append_own_at (P:=P) w cL t o.type e i z size bytes ht hi hz uu hby hzs BX v n xs dI ad m c DU hl hnews h1 Np Wx jH;unfold sP;refine⟨by simp[Oper.about,ho,resolve,Target.leads,Nj],?_⟩;rw[qZ F _ _ (by rw[ho];intro c hc';cases hc')];simp[AS,ho,resolve,invoke,builtin,hs,hx,hr,Result.andThen];exact h v' w' h2 h3
theorem Fm{F:Fence}{nF:Nat}{P:Program}{w w':World}{o:Oper}{a:Act}{K:Act→World→Prop}{Q:Exit→Act→World→Prop}{v:Value}(he:(execOp a.eval o).run P w=.ok (.value v) w')(h:K (a.put o.dst v) w')
 (hab:∀f,o.about P w a.eval=some f→F.fn f:=by(intro f hf;cases hf))(Er:∀c,o.op≠.defer c:=by(intro c h;cases h)):Oper.wpIn F nF P o a w K Q:=by
 unfold Oper.wpIn;refine⟨hab,?_⟩;rw[Oper.semAt_plain F _ _ Er,he];exact h
theorem ZM{F:Fence}{nF:Nat}{P:Program}{w w':World}{o:Oper}{a:Act}{K:Act→World→Prop}{Q:Exit→Act→World→Prop}(he:(execOp a.eval o).run P w=.ok .skip w')(h:K (a.put o.dst undef) w')
 (hab:∀f,o.about P w a.eval=some f→F.fn f:=by(intro f hf;cases hf))(Er:∀c,o.op≠.defer c:=by(intro c h;cases h)):Oper.wpIn F nF P o a w K Q:=by
 unfold Oper.wpIn;refine⟨hab,?_⟩;rw[Oper.semAt_plain F _ _ Er,he];exact h
theorem op_load{F:Fence}{nF:Nat}{P:Program}{w:World}{op:Oper}{a:Act}{K:Act→World→Prop}{Q:Exit→Act→World→Prop}(ty:TypeId)(b o:Nat)(cs:Array Value){x:Operand}{d:TypeDesc}(hc:w.rangeAt b o cs.toList)
 (h:K (a.put op.dst (.agg cs)) w)(ho:op.op=.load ty x:=by rfl)(hx:a.eval x=.pointer (some ⟨b,o,none⟩):=by rfl)(hu:P.underlying ty=some d:=by rfl)(hd:d.isRow=true:=by rfl)(hz:(P.info? ty).map (·.size)=some cs.toList.length:=by kernel_rfl):Oper.wpIn F nF P op a w K Q:=by
 refine⟨fun f hf=>?_,?_⟩
 ·unfold Oper.about at hf;rw[ho]at hf;cases hf
 ·have e:=run_loadAt_mid (P:=P) w b o ty cs.toList d hc hu hd hz;rw[Oper.semAt_plain F _ _ (fun c=>by rw[ho];exact fun h=>by cases h)];unfold execOp;simp only[ho,hx,Sem.run_bind,e,Result.andThen_ok,Sem.run_pure];show K (a.put op.dst _) w;simpa using h
end
end Go.Proofs.YtkchhginppjaiaaGreatDoor
