import Derived.BigRegion
import Derived.BigQuiet
import Derived.Deep.QuietTactic
import Derived.Shelf.SlicesE.Clone
import Derived.Shelf.Spec.SlicesGrow
import Derived.Outline
import Derived.Test.YtckgmoobicmbnaaGreatDoorZ0
import Derived.Test.YtckgmoobicmbnaaGreatDoorZ8
namespace Go.Proofs.YtckgmoobicmbnaaGreatDoor
set_option maxRecDepth 100000
set_option maxHeartbeats 8000000
set_option linter.all false
open Go.Proofs.Tryz
open _root_.Array renaming size_append->tX
open _root_.Go renaming World->aF,Value->aS,Calls->aW,below_drewN->cK,Addr->cT,maxLen->dL,run_takeDeferred->fH,Oper->gL,ownFrom_below->oA,Operand->qV,info_parts->vJ,wpList->FH,size_zeroCells->Zh,grownBy_putObj'->zm
open Go.Calls renaming mono->yP
open Go.Ending renaming returned->aQ
open Go.IntKind renaming i64->aE
open Go.IntWalk renaming i64_in->aX
open Go.KeepsOthers renaming setCell->cG
open Go.Obj renaming cells->aJ
open Go.Oper renaming semAt_some->dW
open Go.OwnFrom renaming and->cU
open Go.Proofs renaming enters_of->nH
open Go.Proofs.Lays8 renaming n4->JK
open Go.Proofs.SlLaysE0 renaming n41->zx
open Go.Proofs.Tryz renaming prog->aC,underlying4->gE,zeroValue4->iJ,sizeOf4->lK,isAgg4->nG,results26->pS,isAgg26->tP,isAgg32->tQ,underlying45->uU,sizeOf45->U9,isAgg45->XL,func68->XO,zeroValue45->zy
open Go.RowKit renaming intOf->aK,Hid->bH
open Go.RowKit.Below renaming refl->aH
open Go.Shelf renaming Ren->iK
open Go.Value renaming string->aA,slice->aB,int->aD,bool->aN,pointer->bA,tuple->cC,agg->cN,oneCell'->nO
open Go.World renaming size_alloc->bB,ownsRow->Rn
open Go.World.ownsRow renaming cellAt->eX
open _root_.List renaming getElem?_cons_zero->aI,getElem?_toArray->aL,getD_eq_getElem?_getD->aO,set_cons_succ->bC,length_cons->bF,size_toArray->bW,length_nil->bY,length_map->cO,length_append->cP,take_succ_eq_append_getElem->dU,getElem_of_mem->eU,take_of_length_le->fM,mem_cons->sZ,map_append->tW,not_mem_nil->Cd,getD_cons_succ->Fu
open _root_.MonadStateOf renaming set->Vq
open _root_.Nat renaming le_refl->aG,le_trans->bE,zero_le->bN,zero_add->dZ,lt_or_ge->fK,mod_lt->fU
open _root_.Trans renaming trans->cB
section
open Go Go.RowKit Go.Lib
def dH(ps:List Pt):List aS:=ps.flatMap fun p=>[aD aE p.side,aA (bs p.fr),aA (bs p.en)]
theorem zH(ps qs:List Pt):dH (ps++qs)=dH ps++dH qs:=by simp[dH]
theorem rT(ps:List Pt):(dH ps).length=3*ps.length:=by
 induction ps with
 |nil=>rfl
 |cons q qs ih=>simp[dH]at *;omega
theorem xO:∀(ps:List Pt)(i:Nat),i<ps.length→(dH ps)[i*3]? =some (aD aE (ps.getD i default).side)∧(dH ps)[i*3+1]? =some (aA (bs (ps.getD i default).fr))∧(dH ps)[i*3+2]? =some (aA (bs (ps.getD i default).en))
 |[],i,h=>by simp at h
 |q::qs,0,_=>⟨rfl,rfl,rfl⟩
 |q::qs,i+1,h=>by
  have ih:=xO qs i (by simpa using h)
  have e1:(i+1)*3=i*3+1+1+1:=by omega
  have e2:(i+1)*3+1=(i*3+1)+1+1+1:=by omega
  have e3:(i+1)*3+2=(i*3+2)+1+1+1:=by omega
  have e:dH (q::qs)=aD aE q.side::aA (bs q.fr)::aA (bs q.en)::dH qs:=rfl
  rw[e3,e2,e1,e]
  simp only[List.getElem?_cons_succ,Fu]
  exact ih
theorem CL.own{w:aF}{base e:Nat}{a:Option cT}{n cap:Nat}{ps:List Pt}(h:w.ownsRow base e 3 (aB a n cap) n (dH ps)):CL w a ps:=by
 intro i hi;have hl:=h.1;rw[rT]at hl;rcases h.2 with⟨_,h2⟩|⟨g,c,yU,hv,_⟩
 ·omega
 ·injection hv with e1 e2 e3;subst e1 e3;obtain⟨k1,k2,k3⟩:=xO ps i hi;refine⟨g,0,rfl,fun j hj=>?_⟩;rw[dZ,eX h (i*3+j) (by omega)];match j,hj with
  |0,_=>exact k1
  |1,_=>exact k2
  |2,_=>exact k3
theorem wV:(Tryz.prog.info? 47).map (fun i=>(i.zero,i.size,i.bytes))=some (some (cN #[aD aE 0,aA ⟨#[]⟩,aA ⟨#[]⟩]),3,40):=by kernel_rfl
theorem TF:(Tryz.prog.info? 45).map (fun i=>(i.zero,i.size,i.bytes))=some (some (aB none 0 0),1,24):=by kernel_rfl
theorem vg{w:aF}{cR:Array gL}{rest:List gL}{o:gL}{a:Act}{Q:Exit→Act→aF→Prop}(Is:o.guard=none)(s x:qV)
 (ho:o.op=.call {callee:=.builtin .append,args:= #[s,x],argTypes:= #[45,45]})(base:Nat)
 (v:aS)(n:Nat)(xs:List aS)(hs:a.eval s=v)(hown:w.ownsRow base 47 3 v n xs)
 (d:Int)(y z:ByteArray)(hx:a.eval x=aB (some ⟨w.heap.size,0,none⟩) 1 1)
 (M8:n+1≤2147483648)(kJ:base≤w.heap.size)
 (h:∀g cap w',w'.ownsRow base 47 3 (aB (some ⟨g,0,none⟩) (n+1) cap) (n+1) (xs++[aD aE d,aA y,aA z])→base≤g→w.grownBy w' v.ownBlock→
  FH aC cR Q rest (a.put o.dst (aB (some ⟨g,0,none⟩) (n+1) cap)) w'):
 FH aC cR Q (o::rest) a (w.alloc (aJ #[aD aE d,aA y,aA z] 47)):=by
 obtain⟨i0,hi,zL,vX,oL⟩:=vJ wV;exact rO Is s x 45 ho base 47 i0 (cN #[aD aE 0,aA ⟨#[]⟩,aA ⟨#[]⟩]) 3 40 uU hi zL vX oL rfl (by decide) v n xs hs hown [aD aE d,aA y,aA z] hx rfl (by simp[nO]) M8 (by decide) kJ h
theorem TG{w:aF}{cR:Array gL}{rest:List gL}{o:gL}{a:Act}{Q:Exit→Act→aF→Prop}(Is:o.guard=none)(s x:qV)
 (ho:o.op=.call {callee:=.builtin .append,args:= #[s,x],argTypes:= #[26,26]})(base:Nat)
 (v:aS)(n:Nat)(xs:List aS)(hs:a.eval s=v)(hown:w.ownsRow base 45 1 v n xs)
 (ad:Option cT)(m c:Nat)(hx:a.eval x=aB (some ⟨w.heap.size,0,none⟩) 1 1)
 (M8:n+1≤2147483648)(kJ:base≤w.heap.size)
 (h:∀g cap w',w'.ownsRow base 45 1 (aB (some ⟨g,0,none⟩) (n+1) cap) (n+1) (xs++[aB ad m c])→base≤g→w.grownBy w' v.ownBlock→
  FH aC cR Q rest (a.put o.dst (aB (some ⟨g,0,none⟩) (n+1) cap)) w'):
 FH aC cR Q (o::rest) a (w.alloc (aJ #[aB ad m c] 45)):=by
 obtain⟨i0,hi,zL,vX,oL⟩:=vJ TF;exact rO Is s x 26 ho base 45 i0 (aB none 0 0) 1 24 underlying26 hi zL vX oL rfl (by decide) v n xs hs hown [aB ad m c] hx rfl (by simp[nO]) M8 (by decide) kJ h
def jP(B:Nat)(W:aF)(v:aS)(IY:List Lp):Prop:=
 W.ownsRow B 45 1 v IY.length (IY.map Lp.v)∧∀l∈IY,W.ownsRow B 47 3 l.v l.ps.length (dH l.ps)
theorem jP.below{B:Nat}{W W':aF}{v:aS}{fD:List Lp}(h:jP B W v fD)(hb:Below W.heap.size W W'):jP B W' v fD:=
 ⟨dI h.1 hb,fun l hl=>dI (h.2 l hl) hb⟩
theorem jP.grow{B:Nat}{W W':aF}{v:aS}{fD:List Lp}{l:Lp}{g cap:Nat}(h:jP B W v fD)(hl:W.ownsRow B 47 3 l.v l.ps.length (dH l.ps))
 (hg:W.grownBy W' v.ownBlock)(hown:W'.ownsRow B 45 1 (aB (some ⟨g,0,none⟩) (fD.length+1) cap) (fD.length+1) (fD.map Lp.v++[l.v])):
 jP B W' (aB (some ⟨g,0,none⟩) (fD.length+1) cap) (fD++[l]):=by
 refine⟨by rw[cP,tW];exact hown,fun x hx=>?_⟩;rcases List.mem_append.1 hx with hx|hx
 ·exact(h.2 x hx).kept hg (wT (h.2 x hx) h.1 (by decide))
 ·rw[List.mem_singleton.1 hx];exact hl.kept hg (wT hl h.1 (by decide))
theorem jP.reads{B:Nat}{W:aF}{a:Option cT}{n cap:Nat}{fD:List Lp}(h:jP B W (aB a n cap) fD):E5 W a fD:=by
 intro i hi;have hl:=eB hi (default:Lp);have h2:=h.2 _ hl;rcases h.1.2 with⟨_,h3⟩|⟨g,c,yU,hv,_⟩
 ·omega
 ·injection hv with e1 e2 e3;subst e1 e2 e3;refine⟨g,0,rfl,?_,CL.own h2⟩;rw[dZ,eX h.1 i (by omega)];simp[aO,hi]
def TH(w:aF)(pts:List (List Pt))(err:Int)(e:Ending)(w':aF):Prop:=
 (∃a cap,∃fD:List Lp,e=aQ (cC #[aB a pts.length cap,aD aE err])∧fD.map Lp.ps=pts∧E5 w' a fD)∧Below w.heap.size w w'
theorem keepD{W:aF}{p:cT}{v:aS}(h:W.cell? p=some v):W.drew.cell? p=some v:=h
theorem zR.up{w:aF}{b off:Nat}{fs:List Fr}{s:Nat}(h:zR w (some ⟨b,off,none⟩) fs)(hs:s<fs.length):w.cell? ⟨b,off+s*5,none⟩=some (aN (fs.getD s default).up):=by
 obtain⟨b',o',e,c,-⟩:=h.at hs rfl;injection e with e;injection e with e1 e2;subst e1 e2;exact c
theorem Ek.get{w:aF}{b off:Nat}{xs:List (List UInt8)}{s:Nat}(h:Ek w (some ⟨b,off,none⟩) xs)(hs:s<xs.length):w.cell? ⟨b,off+s,none⟩=some (aA (bs (xs.getD s []))):=by
 obtain⟨b',o',e,c⟩:=h s hs;injection e with e;injection e with e1 e2;subst e1 e2;exact c
theorem vh{fs:List Fr}{x y:List UInt8}{ls:List Lp}(h:iL fs [x,y] ls=0):(∀f∈fs,B9 f=0)∧gT x=0∧gT y=0∧ls.length≤24:=by
 obtain⟨h1,h2,h3⟩:=Qc h;exact⟨h1,h2 x (by simp),h2 y (by simp),h3⟩
end
section
open Go.Shelf
def Tryz.clK_ren:iK:=⟨fun |41=>63|n=>n,fun |22=>45|23=>47|4=>4|n=>n,fun |n=>n⟩
theorem Tryz.clK:zx aC Tryz.clK_ren:={
 mixed:=by kernel_rfl
 f41:=⟨Tryz.f63.name,by decide,func63.trans (congrArg some (by kernel_rfl))⟩
 t4:=gE
 a4:=nG
 z4:=lK
 v4:=iJ
 t22:=uU
 a22:=XL
 z22:=U9
 v22:=zy}
def Tryz.grK_ren:iK:=⟨fun |4=>141|n=>n,fun |22=>45|25=>47|3=>3|4=>4|9=>9|20=>20|0=>0|n=>n,fun |n=>n⟩
theorem Tryz.grK:JK aC Tryz.grK_ren:={
 mixed:=by kernel_rfl
 f4:=⟨Tryz.f141.name,by decide,func141.trans (congrArg some (by kernel_rfl))⟩
 t0:=underlying0
 a0:=isAgg0
 z0:=sizeOf0
 v0:=zeroValue0
 t3:=underlying3
 a3:=isAgg3
 z3:=sizeOf3
 v3:=zeroValue3
 t4:=gE
 a4:=nG
 z4:=lK
 v4:=iJ
 t9:=underlying9
 a9:=isAgg9
 z9:=sizeOf9
 v9:=zeroValue9
 t20:=underlying20
 a20:=isAgg20
 z20:=sizeOf20
 v20:=zeroValue20
 t22:=uU
 a22:=XL
 z22:=U9
 v22:=zy}
open Go Go.RowKit Go.Lib Go.Shelf
theorem CW{w:aF}{b off:Nat}{ps:List Pt}(h:CL w (some ⟨b,off,none⟩) ps):∀(j:Nat)(u:aS),(dH ps)[j]? =some u→w.cell? ⟨b,off+j,none⟩=some u:=by
 intro j u hu;have hj:j<(dH ps).length:=by
  rcases fK j (dH ps).length with h|h
  ·exact h
  ·rw[List.getElem?_eq_none h]at hu;cases hu
 rw[rT]at hj;have hi:j/3<ps.length:=by omega
 obtain⟨k1,k2,k3⟩:=xO ps (j/3) hi;obtain⟨b',o',e,c1,c2,c3⟩:=h.at hi rfl;injection e with e;injection e with e1 e2;subst e1 e2;have hr:j%3=0∨j%3=1∨j%3=2:=by omega
 rcases hr with r|r|r
 ·rw[show j=j/3*3 by omega,k1]at hu;rw[show off+j=off+j/3*3 by omega,c1];exact hu
 ·rw[show j=j/3*3+1 by omega,k2]at hu;rw[show off+j=off+j/3*3+1 by omega,c2];exact hu
 ·rw[show j=j/3*3+2 by omega,k3]at hu;rw[show off+j=off+j/3*3+2 by omega,c3];exact hu
theorem zI(ps:List Pt):∀u∈dH ps,u.oneCell'=true:=by
 intro u hu;obtain⟨p,-,h⟩:=List.mem_flatMap.1 hu;simp only[sZ,Cd,or_false]at h;rcases h with rfl|rfl|rfl<;>rfl
theorem TI(b off n c:Nat)(ps:List Pt)(w:aF)(hl:ps.length=n)(hn:n≤1000000)(r:CL w (some ⟨b,off,none⟩) ps):
 aW aC 63 #[aB (some ⟨b,off,none⟩) n c] w fun e w'=>(∃g cap,e=aQ (aB (some ⟨g,0,none⟩) n cap)∧w'.ownsRow w.heap.size 47 3 (aB (some ⟨g,0,none⟩) n cap) n (dH ps))∧Below w.heap.size w w':=by
 obtain⟨i0,hi,zL,vX,oL⟩:=vJ wV;have H:=AnyE.slices_Clone Tryz.clK i0 (cN #[aD aE 0,aA ⟨#[]⟩,aA ⟨#[]⟩]) 3 40 hi zL vX oL rfl (by decide) sizeOf47 b off n c (dH ps) w (by rw[rT,hl];omega) (by unfold dL;omega) (by omega) (CW r) (zI ps);refine yP H ?_;rintro e w'⟨v',rfl,hown,It,hb⟩;refine⟨?_,hb⟩;rcases hown.2 with⟨h1,_⟩|⟨g,cap,yU,hv,_⟩
 ·exact absurd h1 It
 ·subst hv;exact⟨g,cap,rfl,hown⟩
theorem WR(n:Nat)(w:aF)(h0:0<n)(hn:n≤100000000):
 aW aC 141 #[aB none 0 0,aD aE n] w fun e w'=>(∃g cap,e=aQ (aB (some ⟨g,0,none⟩) 0 cap)∧w'.ownsRow w.heap.size 47 3 (aB (some ⟨g,0,none⟩) 0 cap) 0 [])∧Below w.heap.size w w':=by
 obtain⟨i0,hi,zL,vX,oL⟩:=vJ wV;have H:=Any8.slices_Grow_grow Tryz.grK i0 (cN #[aD aE 0,aA ⟨#[]⟩,aA ⟨#[]⟩]) hi zL (by rw[vX];decide) none 0 0 n [] w (aG _) (by omega) (by rw[oL];omega) (by omega) (by simp) (fun _=>rfl) (fun a e=>(by cases e));refine yP H ?_;rintro e w'⟨rfl,rfl⟩;refine⟨⟨w.heap.size,_,rfl,rfl,.inr ⟨w.heap.size,_,_,rfl,aG _,World.alloc_heap_new w.drew _,bN _,?_,?_,rfl⟩⟩,((aH _ w).drew.alloc (by simp) _)⟩
 ·exact grownCap_le_maxLen w _ _ _ (by unfold dL;omega)
 ·have:=grownCap_ge w (0+n) 0 (Tryz.grK_ren.t 25);rw[tX,tX,Zh,Zh];simp only[Value.cells,bW,bF,bY];generalize grownCap w (0+n) 0 (Tryz.grK_ren.t 25)=c at *;omega
def kT(ls:List Lp):Nat→Nat
 |0=>0
 |k+1=>kT ls k+(ls.getD k default).ps.length
def nU(ls:List Lp):List Pt:=ls.flatMap Lp.ps
theorem Eo{ls:List Lp}{k:Nat}(hk:k<ls.length):nU (ls.take (k+1))=nU (ls.take k)++(ls.getD k default).ps:=by
 unfold nU;rw[dU hk,List.flatMap_append];simp[aO,hk]
theorem BG{ls:List Lp}:∀k,k≤ls.length→(nU (ls.take k)).length=kT ls k
 |0,_=>rfl
 |k+1,h=>by rw[Eo (by omega),cP,BG k (by omega)];rfl
theorem OE{ls:List Lp}(h:∀i,i<ls.length→(ls.getD i default).ps.length≤1000):∀k,k≤ls.length→kT ls k≤k*1000
 |0,_=>aG _
 |k+1,hk=>by
  have h1:=OE h k (by omega)
  have h2:=h k (by omega)
  rw[kT,Nat.succ_mul];omega
theorem cj{w:aF}{cR:Array gL}{rest:List gL}{o:gL}{a:Act}{Q:Exit→Act→aF→Prop}(Is:o.guard=none)(s x:qV)
 (ho:o.op=.call {callee:=.builtin .append,args:= #[s,x],argTypes:= #[45,45]})(base:Nat)
 (gv cv n:Nat)(xs:List aS)(hs:a.eval s=aB (some ⟨gv,0,none⟩) n cv)(hown:w.ownsRow base 47 3 (aB (some ⟨gv,0,none⟩) n cv) n xs)
 (b off m c:Nat)(ps:List Pt)(hx:a.eval x=aB (some ⟨b,off,none⟩) m c)(hl:ps.length=m)(hr:CL w (some ⟨b,off,none⟩) ps)
 (M8:n+m≤100000000)(kJ:base≤w.heap.size)
 (h:∀g cap w',w'.ownsRow base 47 3 (aB (some ⟨g,0,none⟩) (n+m) cap) (n+m) (xs++dH ps)→base≤g→w.grownBy w' (some gv)→
  FH aC cR Q rest (a.put o.dst (aB (some ⟨g,0,none⟩) (n+m) cap)) w'):
 FH aC cR Q (o::rest) a w:=by
 obtain⟨i0,hi,zL,vX,oL⟩:=vJ wV;refine wpList_append_own _ Is s x 45 ho base 47 i0 (cN #[aD aE 0,aA ⟨#[]⟩,aA ⟨#[]⟩]) 3 40 uU hi zL vX oL rfl (by decide) _ n xs hs hown ⟨b,off,none⟩ m c (dH ps) hx (by rw[rT,hl];omega) (fun j u hj=>by rw[Addr.add_lit];exact CW hr j u hj) (zI ps)
  (by unfold dL;omega) (by omega) kJ ?_
 intro v' w' oR hg It;rcases oR.2 with⟨h1,h2⟩|⟨g',M9,yU,hv,h3,-⟩
 ·exact absurd (It.1 h1).1 (by simp)
 ·subst hv;exact h g' M9 w' oR h3 hg
theorem Qm (a:Option cT) (n ca:Nat) (ls:List Lp) (w:aF) (hl:ls.length=n) (hn:n≤1000) (wG:∀ i,i < n→(ls.getD i default).ps.length≤1000) (hps1:∀ i,i < n→1≤(ls.getD i default).ps.length) (hpos:0 < kT ls n) (rl:E5 w a ls) :
 aW aC 64 #[aB a n ca] w fun e w' => (∃ g cap,e=aQ (aB (some ⟨g,0,none⟩) (kT ls n) cap)∧CL w' (some ⟨g,0,none⟩) (nU ls))∧Below w.heap.size w w' :=by
 have Zx:∀ k,k≤n→kT ls k≤k * 1000:=fun k hk=> OE (by rw [hl];exact wG) k (by omega);have hmono:∀ k,k < n→kT ls (k + 1)=kT ls k + (ls.getD k default).ps.length:=fun k _=> rfl;have GJ:∀ k,k≤n→kT ls k≤1000000:=fun k hk=> by have:=Zx k hk;have:k * 1000≤1000 * 1000:=Nat.mul_le_mul_right _ (by omega);omega
 have HA:bH (∀ k,k < n→nU (ls.take (k + 1))=nU (ls.take k) ++ (ls.getD k default).ps):=fun k hk=> Eo (by omega);have HAn:bH (nU (ls.take n)=nU ls):=by show _=_;rw [fM (by omega)]
 have HLn:bH (∀ k,k≤n→(nU (ls.take k)).length=kT ls k):=fun k hk=> BG k (by omega);have Hb:=zq GJ;have Hp1:=zq hps1;have Hm:=zq hmono;have Hl:=zq hl;have Rl:=zq rl;have HG:=zq (fun W=> WR (kT ls n) W hpos (by have:=GJ n (aG _);omega));have hbn:=GJ n (aG _);clear hl wG hps1 rl Zx hmono GJ;go_enter func64,ntmps64;go_wp2;go_loop [3,11] (fun s i=> ∃ k:Nat,i=aD aE k∧k≤n∧s=aD aE (kT ls k:Nat)) (fun _ i=> n - (aK i).toNat);case atStart=> exact⟨0,rfl,bN _,rfl⟩
 case round=>
  obtain⟨k,rfl,hk,rfl⟩:=hrel;by_cases hlt:k < n
  ·obtain⟨lb,lo,rfl,c0, -⟩:=Rl.out.at (i:=k) (by rw [Hl.out];exact hlt) rfl;have b1:=Hb.out k hk;have b2:=Hb.out (k + 1) hlt;have e2:=Hm.out k hlt;have HE:=zq e2;rw [e2] at b2;clear e2;generalize ls.getD k default=l at *;generalize l.ps.length=m at *;generalize l.a=la at *;generalize l.cap=lc at *;obtain⟨s1,Ei⟩:∃ s,kT ls (k + 1)=s:=⟨_,rfl⟩;rw [Ei] at HE;have TJ:=zq Ei;clear Ei;generalize kT ls k=s0 at *;go_wp2;go_round;case rel=> exact⟨k + 1,by go_num,by omega,by rw [TJ.out,HE.out];go_num⟩
   case measure=> simp only [aK];omega
  ·obtain rfl:n=k:=by omega
   obtain⟨N,hN⟩:∃ N,kT ls n=N:=⟨_,rfl⟩;rw [hN] at HG hbn ⊢;have HN:=zq hN;clear hN hpos;go_wp2_with fail
   refine(HG.out _).mono ?_;rintro e W1 ⟨⟨g0,vi,rfl,JE⟩,hb1⟩;have eW:=zq hb1;have Nq:=zq JE;clear hb1 JE HG;go_wp2;go_loopw [6,27] (fun o i wr=> ∃ (k g cap:Nat),i=aD aE k∧k≤n∧o=aB (some ⟨g,0,none⟩) (kT ls k) cap∧bH (wr.ownsRow w.heap.size 47 3 (aB (some ⟨g,0,none⟩) (kT ls k) cap) (kT ls k) (dH (nU (ls.take k))))∧bH (Below w.heap.size w wr)) (fun _ i _=> n - (aK i).toNat);case atStart=> exact⟨0,g0,vi,rfl,bN _,rfl,Nq.out,eW.out⟩
   case round=>
    clear eW Nq;obtain⟨k,g,cap,rfl,hk,rfl,qO,HB⟩:=hrel;by_cases hlt2:k < n
    ·obtain⟨lb,lo,rfl,c0,rp⟩:=(Rl.out.below HB.out).at (i:=k) (by rw [Hl.out];exact hlt2) rfl;have HE:=zq (Hm.out k hlt2);have b2:=Hb.out (k + 1) hlt2;rw [HE.out] at b2;have HAk:=zq (HA.out k hlt2);obtain⟨pb,po,ea, -⟩:=rp 0 (Hp1.out k hlt2);have Rp:=zq rp;clear rp;generalize ls.getD k default=l at *;obtain⟨la,lc,ps⟩:=l;simp only [] at *;subst ea;obtain⟨m,hm⟩:∃ m,ps.length=m:=⟨_,rfl⟩;rw [hm] at c0 HE b2;have Hpl:=zq hm;clear hm;obtain⟨s1,Ei⟩:∃ s,kT ls (k + 1)=s:=⟨_,rfl⟩;rw [Ei] at HE;have TJ:=zq Ei;clear Ei;generalize kT ls k=s0 at *;have hown:=qO.out;have Ru:=HB.out.size;have hb3:s0 + m≤100000000:=by omega
     go_wp2_with (at_builtin;refine cj rfl _ _ rfl w.heap.size g cap s0 _ rfl hown pb po m lc ps rfl Hpl.out Rp.out hb3 Ru ?_;intro g5 WO w5 rS uw CV)
     have yI:=zq (eP (v:=aB (some ⟨g,0,none⟩) s0 cap) HB.out CV hown (aG _) Ru);rw [← zH,← HAk.out,← HE.out] at rS;have HO5:=zq rS;clear hown rS CV;go_wp2;go_roundw;case rel=> exact⟨k + 1,g5,WO,by go_num,by omega,by rw [TJ.out,HE.out],by rw [TJ.out];exact HO5.out,yI.out⟩
     case measure=> simp only [aK];omega
    ·obtain rfl:n=k:=by omega
     rw [HAn.out,HN.out] at qO;rw [HN.out];have R:=zq (CL.own qO.out);go_wp2;go_ret;exact⟨⟨g,cap,by first | rfl | (rw [HN.out];rfl),R.out⟩,HB.out⟩
end
section
open Go Go.RowKit Go.Lib
theorem vj (Bf:Nat) (a:Option cT) (nf ca:Nat) (fs:List Fr) (p:Pt) (s:Nat) (w:aF) (hE:iM w) (hf:fs.length=nf) (hs:p.side=s) (J2:s < nf) (bf:nf≤1000000) (hdir:∀ f∈fs,f.dir=1∨f.dir= -1)
 (h1:p.fr.length≤8000000) (h2:p.en.length≤8000000) (rf:zR w a fs) (hb:bT w Bf #[aB a nf ca] 25) :
 aW aC 66 #[p.v,bA (some ⟨Bf,0,none⟩)] w (Rt (aN (CS fs p)) w):=by
 have Hc:bH (∀ W,Below w.heap.size w W→aW aC 61 #[aA (bs p.en),aA (bs p.fr)] W (Rt (aD aE (iE p.en p.fr).1) W)):=fun W hW=> by
  have:=mN (bs p.en) (bs p.fr) W (hE.below hW) (by rw [cZ];exact h2) (by rw [cZ];exact h1);rwa [bP,bP] at this
 have HFs:bH (∀ W,aW aC 52 #[(fs.getD s default).v] W (Rt (aD aE (oY (fs.getD s default))) W)):=fun W=> pN _ W;have hd:=hdir _ (eB (i:=s) (by omega) (default:Fr));have HTs:bH (∀ W,aW aC 67 #[aD aE (oY (fs.getD s default))] W (Rt (aD aE (JY (fs.getD s default))) W)):=fun W=> by
  refine(Om (oY (fs.getD s default)) W).mono ?_;rintro e w' ⟨rfl,rfl⟩;exact⟨by rw [Yt hd],aH _ _⟩
 have hAb:=Yw hdir hs (by omega);have HAd:bH (DP fs p=(iE p.en p.fr).1 * JY (fs.getD s default)):=by show _=_;unfold DP;rw [hs];rfl
 have HR:bH (CS fs p=decide (DP fs p < 0)):=rfl;have fA:=(aH w.heap.size w).alloc (aG _) (aJ #[aD aE p.side,aA (bs p.fr),aA (bs p.en)] 47);have Qb:=zq (bT.new w #[aD aE p.side,aA (bs p.fr),aA (bs p.en)] 47);have hbk:=hb.below fA hb.lt;obtain⟨fb,fo,rfl,f0,f1,f2,f3,f4⟩:=(rf.below fA).at (i:=s) (by rw [hf];exact J2) rfl;have gY:=zq fA;have Hbk:=zq hbk;clear hE hf hdir h1 h2 rf hb hd fA hbk;unfold Fr.v Fr.cells at HFs;unfold Pt.v Pt.cells;generalize CS fs p=BP at *;generalize DP fs p=AD at *;generalize (iE p.en p.fr).1=CC at *;generalize fs.getD s default=f at *;generalize JY f=FW at *;generalize oY f=DF at *;obtain⟨Aw,CM,pA,LK,Rx⟩:=f;obtain⟨side,fr,en⟩:=p;simp only [] at *;subst hs;generalize bs LK=FSP at *;generalize bs Rx=FST at *;generalize bs fr=FR at *;generalize bs en=EN at *;have hw:IntKind.i64.wrap (CC * FW)=AD:=by rw [← HAd.out];exact aX _ (by omega)
 obtain⟨WA,hWA⟩:∃ WA,w.alloc (aJ #[aD aE s,aA FR,aA EN] 47)=WA:=⟨_,rfl⟩;rw [hWA] at f0 f1 f2 f3 f4 gY Hbk Qb;obtain⟨e0,e1,e2⟩:=Qb.out.three;have k0:WA.cell? ⟨Bf,0,none⟩=some (aB (some ⟨fb,fo,none⟩) nf ca):=Hbk.out.cell 0;clear hAb Hbk;go_enter func66,ntmps66;go_wp2;try rw [hWA]
 have DM:WA.heap.size=w.heap.size + 1:=by rw [← hWA];simp
 have HWs:bH (Below WA.heap.size WA WA.drew):=(aH _ WA).drew;clear hWA DM;go_cut [3] (fun v W=> v=aN BP∧bH (Below w.heap.size w W));case first=>
  go_region_held3 (fun w' => (w'.cell? ⟨w.heap.size,0,none⟩=some (aD aE s)∧w'.cell? ⟨w.heap.size,1,none⟩=some (aA FR)∧w'.cell? ⟨w.heap.size,2,none⟩=some (aA EN))∧w'.cell? ⟨Bf,0,none⟩=some (aB (some ⟨fb,fo,none⟩) nf ca)∧w'.cell? ⟨fb,fo + s * 5,none⟩=some (aN Aw)∧w'.cell? ⟨fb,fo + s * 5 + 1,none⟩=some (aD aE CM)∧w'.cell? ⟨fb,fo + s * 5 + 2,none⟩=some (aD aE pA)∧w'.cell? ⟨fb,fo + s * 5 + 3,none⟩=some (aA FSP)∧w'.cell? ⟨fb,fo + s * 5 + 4,none⟩=some (aA FST)) (go_keep)
   (first
    | (go_at_call 61;(with_reducible refine(Hc.out _ (aU gY.out HWs.out)).mono ?_);rintro e w1 ⟨rfl,hb1⟩;have hBo:=zq (aU HWs.out hb1);have:=ck hb1 w.heap.size 0 (aD aE s);have:=ck hb1 w.heap.size 1 (aA FR);have:=ck hb1 w.heap.size 2 (aA EN);have:=ck hb1 Bf 0 (aB (some ⟨fb,fo,none⟩) nf ca);have m0:=cF hb1 (p:=⟨fb,fo + s * 5,none⟩) (v:=aN Aw) (by simp [*]);have m1:=cF hb1 (p:=⟨fb,fo + s * 5 + 1,none⟩) (v:=aD aE CM) (by simp [*]);have m2:=cF hb1 (p:=⟨fb,fo + s * 5 + 2,none⟩) (v:=aD aE pA) (by simp [*]);have m3:=cF hb1 (p:=⟨fb,fo + s * 5 + 3,none⟩) (v:=aA FSP) (by simp [*]);have m4:=cF hb1 (p:=⟨fb,fo + s * 5 + 4,none⟩) (v:=aA FST) (by simp [*]))
    | (go_at_call 52;(with_reducible refine(HFs.out _).mono ?_);rintro e w2 ⟨rfl,hb2⟩;have hBf:=zq (aU hBo.out hb2);have:=ck hb2 w.heap.size 0 (aD aE s);have:=ck hb2 w.heap.size 1 (aA FR);have:=ck hb2 w.heap.size 2 (aA EN);have:=ck hb2 Bf 0 (aB (some ⟨fb,fo,none⟩) nf ca);have m0:=cF hb2 (p:=⟨fb,fo + s * 5,none⟩) (v:=aN Aw) (by simp [*]);have m1:=cF hb2 (p:=⟨fb,fo + s * 5 + 1,none⟩) (v:=aD aE CM) (by simp [*]);have m2:=cF hb2 (p:=⟨fb,fo + s * 5 + 2,none⟩) (v:=aD aE pA) (by simp [*]);have m3:=cF hb2 (p:=⟨fb,fo + s * 5 + 3,none⟩) (v:=aA FSP) (by simp [*]);have m4:=cF hb2 (p:=⟨fb,fo + s * 5 + 4,none⟩) (v:=aA FST) (by simp [*]))
    | (go_at_call 67;(with_reducible refine(HTs.out _).mono ?_);rintro e w3 ⟨rfl,hb3⟩;have hBt:=zq (aU hBf.out hb3);have:=ck hb3 w.heap.size 0 (aD aE s);have:=ck hb3 w.heap.size 1 (aA FR);have:=ck hb3 w.heap.size 2 (aA EN);have:=ck hb3 Bf 0 (aB (some ⟨fb,fo,none⟩) nf ca);have m0:=cF hb3 (p:=⟨fb,fo + s * 5,none⟩) (v:=aN Aw) (by simp [*]);have m1:=cF hb3 (p:=⟨fb,fo + s * 5 + 1,none⟩) (v:=aD aE CM) (by simp [*]);have m2:=cF hb3 (p:=⟨fb,fo + s * 5 + 2,none⟩) (v:=aD aE pA) (by simp [*]);have m3:=cF hb3 (p:=⟨fb,fo + s * 5 + 3,none⟩) (v:=aA FSP) (by simp [*]);have m4:=cF hb3 (p:=⟨fb,fo + s * 5 + 4,none⟩) (v:=aA FST) (by simp [*])))
  all_goals
   go_wp2;go_meet;case rel=> exact⟨by first | (rw [HR.out];done) | (rw [HR.out];rfl) | (rw [HR.out,hw];done) | (rw [HR.out,hw];rfl),aU gY.out hBt.out⟩
 case rest=>
 obtain⟨rfl,HB⟩:=hcut;go_wp2;go_ret;exact⟨rfl,HB.out⟩
theorem vk(p:Pt)(w:aF)(hE:iM w)(h1:p.fr.length≤8000000)(h2:p.en.length≤8000000):
 aW aC 68 #[p.v] w (Rt (aN (L9 p)) w):=by
 have H1:bH (∀W,Below w.heap.size w W→aW aC 69 #[aA (bs p.fr)] W (Rt (aD aE (gT p.fr)) W)):=fun W hW=>by
  have:=GA (bs p.fr) W (hE.below hW) (by rw[cZ];exact h1);rwa[bP]at this
 have H2:bH (∀W,Below w.heap.size w W→aW aC 69 #[aA (bs p.en)] W (Rt (aD aE (gT p.en)) W)):=fun W hW=>by
  have:=GA (bs p.en) W (hE.below hW) (by rw[cZ];exact h2);rwa[bP]at this
 have HR:bH (L9 p=(decide (gT p.fr≠0)||decide (gT p.en≠0))):=rfl;have gY:=zq ((aH w.heap.size w).alloc (aG _) (aJ #[aD aE p.side,aA (bs p.fr),aA (bs p.en)] 47));have Qb:=zq (bT.new w #[aD aE p.side,aA (bs p.fr),aA (bs p.en)] 47);clear hE h1 h2;unfold Pt.v Pt.cells;generalize L9 p=BP at *;generalize gT p.fr=N1 at *;generalize gT p.en=N2 at *;obtain⟨side,fr,en⟩:=p;simp only[]at *;generalize bs fr=FR at *;generalize bs en=EN at *;by_cases h1:N1=0
 ·subst h1;go_enter XO,ntmps68;go_wp2_with fail
  refine ka (H1.out _ gY.out) fun W1 hb1=>?_;have eW:=zq (aU gY.out hb1);have Q1:=zq (Qb.out.below hb1 Qb.out.lt);obtain⟨e0,e1,e2⟩:=Q1.out.three;clear hb1;go_wp2_with fail
  refine kb (H2.out _ eW.out) eW.out fun W2 fR=>?_;by_cases h2:N2=0
  ·subst h2;go_wp2;go_ret;exact⟨by rw[HR.out]<;>rfl,fR.out⟩
  ·have h':(N2 !=0)=true:=by rw[bne_iff_ne];exact h2
   have Ad:bH (BP=true):=by show _=_;rw[HR.out,decide_eq_true h2];rfl
   clear h2;go_wp2;go_ret;exact⟨by rw[Ad.out]<;>rfl,fR.out⟩
 ·have h':(N1 !=0)=true:=by rw[bne_iff_ne];exact h1
  have Ad:bH (BP=true):=by show _=_;rw[HR.out,decide_eq_true h1,Bool.true_or]
  clear h1;go_enter XO,ntmps68;go_wp2_with fail
  refine kb (H1.out _ gY.out) gY.out fun W1 eW=>?_;go_wp2;go_ret;exact⟨by rw[Ad.out]<;>rfl,eW.out⟩
end
section
open Go Go.RowKit Go.Shelf Go.Lib
section
attribute[local go_sem] dW
theorem vl(a b:Rat):(0<tG a b)↔(tG b a<0):=by
 unfold tG;by_cases h:a<b
 ·have k:¬b<a:=by grind
  simp[h,k]
 ·by_cases k:b<a<;>simp[h,k]
theorem TK{x y:List UInt8}(hx:gT x=0)(hy:gT y=0):(0<(iE x y).1)↔((iE y x).1<0):=by
 obtain⟨-,h1,e1⟩:=E6 hx;obtain⟨-,h2,e2⟩:=E6 hy;have a:=IA h1 h2 (by decide);have b:=IA h2 h1 (by decide);rw[e1,e2]at a b;rw[a,b];exact vl _ _
def zT(hs:Nat)(a:Option cT)(nf ca:Nat)(X Y:ByteArray)(W:aF):Prop:=
 bT W hs #[aB a nf ca] 25∧bT W (hs+1) #[aA X] 27∧bT W (hs+1+1) #[aA Y] 27∧bT W (hs+1+1+1) #[aB none 0 0] 26∧bT W (hs+1+1+1+1) #[aD aE 0] 32
theorem zT.below{hs:Nat}{a:Option cT}{nf ca:Nat}{X Y:ByteArray}{W W':aF}(h:zT hs a nf ca X Y W)(hb:Below W.heap.size W W'):zT hs a nf ca X Y W':=
 ⟨h.1.below hb h.1.lt,h.2.1.below hb h.2.1.lt,h.2.2.1.below hb h.2.2.1.lt,h.2.2.2.1.below hb h.2.2.2.1.lt,h.2.2.2.2.below hb h.2.2.2.2.lt⟩
theorem zT.alloc{hs:Nat}{a:Option cT}{nf ca:Nat}{X Y:ByteArray}{W:aF}(h:zT hs a nf ca X Y W)(o:Obj):zT hs a nf ca X Y (W.alloc o):=h.below ((aH _ W).alloc (aG _) o)
theorem zT.new(a:Option cT)(nf ca:Nat)(X Y:ByteArray)(w:aF):∃W,((((w.alloc (aJ #[aB a nf ca] 25)).alloc (aJ #[aA X] 27)).alloc (aJ #[aA Y] 27)).alloc (aJ #[aB none 0 0] 26)).alloc (aJ #[aD aE 0] 32)=W∧
 zT w.heap.size a nf ca X Y W∧Below w.heap.size w W:=by
 refine⟨_,rfl,⟨((((bT.new w _ _).alloc _).alloc _).alloc _).alloc _,?_,?_,?_,?_⟩,(((((aH _ w).alloc (aG _) _).alloc (by simp) _).alloc (by simp;omega) _).alloc (by simp;omega) _).alloc (by simp;omega) _⟩
 ·have:=(((bT.new (w.alloc (aJ #[aB a nf ca] 25)) #[aA X] 27).alloc (aJ #[aA Y] 27)).alloc (aJ #[aB none 0 0] 26)).alloc (aJ #[aD aE 0] 32);simpa[bB]using this
 ·have:=((bT.new ((w.alloc (aJ #[aB a nf ca] 25)).alloc (aJ #[aA X] 27)) #[aA Y] 27).alloc (aJ #[aB none 0 0] 26)).alloc (aJ #[aD aE 0] 32);simpa[bB]using this
 ·have:=(bT.new (((w.alloc (aJ #[aB a nf ca] 25)).alloc (aJ #[aA X] 27)).alloc (aJ #[aA Y] 27)) #[aB none 0 0] 26).alloc (aJ #[aD aE 0] 32);simpa[bB]using this
 ·have:=bT.new ((((w.alloc (aJ #[aB a nf ca] 25)).alloc (aJ #[aA X] 27)).alloc (aJ #[aA Y] 27)).alloc (aJ #[aB none 0 0] 26)) #[aD aE 0] 32;simpa[bB]using this
theorem ct(a:Option cT)(nf ca:Nat)(w:aF):
 aW aC 62 #[aB a nf ca] w fun e w'=>e=aQ (.func (.func 139) #[] #[bA (some ⟨w.heap.size,0,none⟩)])∧w'=w.alloc (aJ #[aB a nf ca] 25):=by
 go_enter func62,ntmps62;go_wp2;go_ret;exact⟨rfl,rfl⟩
end
structure vm(a b:Option cT)(nf n ca cb:Nat)(fs:List Fr)(ls:List Lp)(x y:List UInt8)(w:aF):Prop where
 tracer2:∀W g,Below w.heap.size w W→bT W g #[aA (bs x),aA (bs y)] 27→aW aC 37 #[aB a nf ca,aB b n cb,aB (some ⟨g,0,none⟩) 2 2] W (P9 a nf ca fs [x,y] ls W)
 all:iL fs [x,y] ls=0→∀a2 c2 W,Below w.heap.size w W→Ek W a2 (oZ fs x)→aW aC 38 #[cN #[aB a nf ca,aB a2 nf c2],aB b n cb,aN true] W (Rt (aN (tK fs (oZ fs x) ls true)) W)
 cmp:∀W,Below w.heap.size w W→aW aC 61 #[aA (bs x),aA (bs y)] W (Rt (aD aE (iE x y).1) W)
theorem moveC(a b:Option cT)(nf n ca cb:Nat)(fs:List Fr)(ls:List Lp)(x y:List UInt8)(w:aF)(hE:iM w)
 (hf:fs.length=nf)(hl:ls.length=n)(bf:nf≤1000)(hn:n≤1000000)(Ig:∀f∈fs,f.sp.length≤30∧f.st.length≤30)(Nx:Ws ls)(hx:x.length≤8000000)(hy:y.length≤8000000)
 (rf:zR w a fs)(rl:E5 w b ls):vm a b nf n ca cb fs ls x y w where
 tracer2 W g hW q:=by
  have rz:Ek W (some ⟨g,0,none⟩) [x,y]:=by
   intro i hi;have hi:i<2:=hi;match i,hi with
   |0,_=>exact⟨_,_,rfl,q.cell 0⟩
   |1,_=>exact⟨_,_,rfl,q.cell 1⟩
  exact sV a b (some ⟨g,0,none⟩) nf n 2 ca cb 2 fs ls [x,y] W (hE.below hW) hf hl rfl (by omega) hn (by decide) Ig (fun z hz=>by simp only[sZ,Cd,or_false]at hz;rcases hz with rfl|rfl<;>assumption) (fun l h=>(Nx l h).1) (rf.below hW) (rl.below hW) rz
 all h a2 c2 W hW ra:=by
  obtain⟨h1,h2,h3,-⟩:=vh h;exact Wt a a2 b nf n ca c2 cb fs (oZ fs x) ls true W (hE.below hW) hf (by rw[Dv];exact hf) hl hn (fun f hm=>(Fr.Ok.dir ⟨h1 f hm,(Ig f hm).1,(Ig f hm).2⟩)) Nx (rf.below hW) ra (rl.below hW)
 cmp W hW:=by
  have:=mN (bs x) (bs y) W (hE.below hW) (by rw[cZ];exact hx) (by rw[cZ];exact hy);rwa[bP,bP]at this
theorem zT.err{hs:Nat}{a:Option cT}{nf ca:Nat}{X Y:ByteArray}{W:aF}(h:zT hs a nf ca X Y W)(v:aS)(c:Int):
 ∃V,(W.setCell ⟨hs+1+1+1,0,none⟩ v).setCell ⟨hs+1+1+1+1,0,none⟩ (aD aE c)=V∧
  bT V (hs+1+1+1) #[v] 26∧bT V (hs+1+1+1+1) #[aD aE c] 32∧∀u,Below hs u W→Below hs u V:=
 ⟨_,rfl,(h.2.2.2.1.set 0 _).other _ (by show hs+1+1+1≠hs+1+1+1+1;omega),(h.2.2.2.2.other _ (by show hs+1+1+1+1≠hs+1+1+1;omega)).set 0 _,
  fun u hu=>(hu.setCell (by show hs≤hs+1+1+1;omega) _).setCell (by show hs≤hs+1+1+1+1;omega) _⟩
theorem TL(a b:Option cT)(nf n ca cb:Nat)(fs:List Fr)(ls:List Lp)(x y:List UInt8)(w:aF)(H:vm a b nf n ca cb fs ls x y w)(h0:iL fs [x,y] ls≠0):
 aW aC 26 #[aB a nf ca,aB b n cb,aA (bs x),aA (bs y)] w (TH w (rI fs ls x y) (lD fs ls x y)):=by
 have hPE:=(wN fs ls x y).1 h0;have RX:bH (∀W,Below w.heap.size w W→TH w (rI fs ls x y) (lD fs ls x y) (aQ (cC #[aB none 0 0,aD aE (iL fs [x,y] ls)])) W):=fun W hB=>
  ⟨⟨none,0,[],by rw[BF (by rw[hPE];exact h0),hPE];rfl,by rw[BF (by rw[hPE];exact h0)];rfl,fun i hi=>absurd hi (by simp)⟩,hB⟩
 have h':(iL fs [x,y] ls !=0)=true:=by rw[bne_iff_ne];exact h0
 obtain⟨W0,eQ,Cj,fA⟩:=zT.new a nf ca (bs x) (bs y) w;have HC:=zq (H.tracer2 (W0.alloc (aJ #[aA (bs x),aA (bs y)] 27)) W0.heap.size (fA.alloc fA.size _) (bT.new W0 _ _));have Bv:=zq (Cj.alloc (aJ #[aA (bs x),aA (bs y)] 27));have gY:=zq (fA.alloc fA.size (aJ #[aA (bs x),aA (bs y)] 27));have Bx:=zq Cj;clear H hPE h0 Cj fA;unfold P9 at HC;generalize rI fs ls x y=PV at *;generalize lD fs ls x y=PE at *;generalize iL fs [x,y] ls=c at *;generalize bs x=X at *;generalize bs y=Y at *;go_enter func26,ntmps26;go_upto_region 1 with(fail)
 try rw[eQ]
 have b4:=Bx.out.1.cell 0;have b6:=Bx.out.2.1.cell 0;have b7:=Bx.out.2.2.1.cell 0;have l4:=Bx.out.1.lt;have l6:=Bx.out.2.1.lt;have l7:=Bx.out.2.2.1.lt;simp only[aL,aI]at b4 b6 b7;clear eQ;go_wp2_with fail
 refine HC.out.mono ?_;rintro e W1⟨⟨a1,n1,c1,a2,n2,c2,rfl,-⟩,hb1⟩;have eW:=zq (aU gY.out hb1);have Fe:=zq (Bv.out.below hb1);have hlt:=Fe.out.2.2.2.2.lt;clear hb1 b4 b6 b7 l4 l6 l7;have r8:=Fe.out.2.2.2.1.cell 0;have r9:=Fe.out.2.2.2.2.cell 0;have z8:=Fe.out.2.2.2.1.fz 0;have z9:=Fe.out.2.2.2.2.fz 0;have l8:=Fe.out.2.2.2.1.lt;have l9:=Fe.out.2.2.2.2.lt;simp only[aL,aI]at r8 r9;go_wp2;obtain⟨V,hV,b1,b2,Ae⟩:=Fe.out.err (aB none 0 0) c;rw[hV];exact bodyPost_ret (iR pS _ _ (w.heap.size+1+1+1) (w.heap.size+1+1+1+1) (aB none 0 0) (aD aE c) rfl rfl ((b1.alloc _).cell 0) ((b2.alloc _).cell 0) tP tQ) rfl (RX.out _ ((Ae _ eW.out).alloc (bE eW.out.size (by rw[←hV];simp)) _))
theorem jP.set{B:Nat}{W:aF}{v:aS}{fD:List Lp}(h:jP B W v fD){p:cT}(hp:p.block<B)(u:aS):jP B (W.setCell p u) v fD:=
 ⟨lB h.1 hp u,fun l hl=>lB (h.2 l hl) hp u⟩
theorem jP.putObj{B:Nat}{W:aF}{v:aS}{fD:List Lp}(h:jP B W v fD){l:Nat}{o:Obj}(o':Obj)(hl:W.heap[l]? =some o)(ho:o.isCells=false):jP B (W.putObj l o') v fD:=
 ⟨oT h.1 (zm W l o') (fun r e=>by cases e;exact⟨o,hl,ho⟩),fun x hx=>oT (h.2 x hx) (zm W l o') (fun r e=>by cases e;exact⟨o,hl,ho⟩)⟩
theorem cw(w:aF):aW aC 141 #[aB none 0 0,aD aE 0] w (Rt (aB none 0 0) w):=by
 go_enter func141,ntmps141;go_wp2;go_ret;exact⟨rfl,aH _ _⟩
theorem TM(w:aF):aW aC 64 #[aB none 0 0] w (Rt (aB none 0 0) w):=by
 have HG:=zq (fun W=>cw W);go_enter func64,ntmps64;go_wp2;go_loop [3,11] (fun s i=>i=aD aE 0∧s=aD aE 0) (fun _ i=>0-(aK i).toNat);case atStart=>exact⟨rfl,rfl⟩
 case round=>
  obtain⟨rfl,rfl⟩:=hrel;go_wp2_with fail
  refine(HG.out _).mono ?_;rintro e W1⟨rfl,hb1⟩;have eW:=zq hb1;clear hb1;go_wp2;go_loopw[6,27] (fun o i wr=>i=aD aE 0∧o=aB none 0 0∧bH (Below w.heap.size w wr)) (fun _ i _=>0-(aK i).toNat);case atStart=>exact⟨rfl,rfl,eW.out⟩
  case round=>
   obtain⟨rfl,rfl,HB⟩:=hrel;go_wp2;go_ret;exact⟨rfl,HB.out⟩
structure MoveH(a:Option cT)(nf n ca:Nat)(fs:List Fr)(MA:List (List Pt))(w:aF):Prop where
 cat:∀W va vc IY,Below w.heap.size w W→IY.map Lp.ps=MA→(n=0→va=none∧vc=0)→E5 W va IY→aW aC 64 #[aB va n vc] W fun e w'=>(∃pa pc,e=aQ (aB pa MA.flatten.length pc)∧CL w' pa MA.flatten)∧Below W.heap.size W w'
 back:∀W Bf pa pc,Below w.heap.size w W→bT W Bf #[aB a nf ca] 25→CL W pa MA.flatten→aW aC 65 #[aB pa MA.flatten.length pc,.func (.func 66) #[] #[bA (some ⟨Bf,0,none⟩)]] W (Rt (aN (MA.flatten.any (CS fs))) W)
 lim:∀W pa pc,Below w.heap.size w W→CL W pa MA.flatten→aW aC 65 #[aB pa MA.flatten.length pc,.func (.func 68) #[] #[]] W (Rt (aN (MA.flatten.any L9)) W)
theorem moveH(a:Option cT)(nf n ca:Nat)(fs:List Fr)(MA:List (List Pt))(w:aF)(hE:iM w)(hf:fs.length=nf)(hl:MA.length=n)(hn:n≤24)(bf:nf≤1000000)
 (hdir:∀f∈fs,f.dir=1∨f.dir= -1)(kK:∀i,i<n→1≤(MA.getD i []).length∧(MA.getD i []).length≤96)
 (hpt:∀i,i<n→∀j,j<(MA.getD i []).length→(∃s:Nat,((MA.getD i []).getD j default).side=s∧s<nf)∧((MA.getD i []).getD j default).fr.length≤8000000∧((MA.getD i []).getD j default).en.length≤8000000)
 (rf:zR w a fs):MoveH a nf n ca fs MA w:=by
 have NC:∀p∈MA.flatten,(∃s:Nat,p.side=s∧s<nf)∧p.fr.length≤8000000∧p.en.length≤8000000:=by
  intro p hp;obtain⟨l,ji,hp⟩:=List.mem_flatten.1 hp;obtain⟨i,hi,rfl⟩:=eU ji;obtain⟨j,hj,rfl⟩:=eU hp;have e1:MA.getD i []=MA[i]:=by simp[aO,hi]
  have e2:MA[i].getD j default=MA[i][j]:=by simp[aO,hj]
  have:=hpt i (by omega) j (by rw[e1];exact hj);rwa[e1,e2]at this
 have sT:MA.flatten.length≤1000000:=by
  have:∀(L:List (List Pt)),(∀l∈L,l.length≤96)→L.flatten.length≤L.length*96:=by
   intro L;induction L with
   |nil=>intro _;exact aG _
   |cons l L ih=>
    intro h;have h1:=h l (by simp);have h2:=ih (fun x hx=>h x (by simp[hx]));rw[List.flatten_cons,cP,bF];omega
  have:=this MA (fun l ji=>by
   obtain⟨i,hi,rfl⟩:=eU ji;have e1:MA.getD i []=MA[i]:=by simp[aO,hi]
   rw[←e1];exact(kK i (by omega)).2)
  omega
 refine⟨fun W va vc IY hW hm h0 rl=>?_,fun W Bf pa pc hW hb rp=>?_,fun W pa pc hW rp=>?_⟩
 ·have hll:IY.length=n:=by rw[←hl,←hm,cO]
  have FD:∀i,i<n→(IY.getD i default).ps=MA.getD i []:=fun i hi=>by
   rw[←hm];have:i<IY.length:=by omega
   simp[aO,this]
  have hall:nU IY=MA.flatten:=by rw[←hm];exact List.flatMap_def ..
  have oo:kT IY n=MA.flatten.length:=by
   rw[←BG n (by omega),fM (by omega),hall]
  by_cases hz:n=0
  ·obtain⟨rfl,rfl⟩:=h0 hz;subst hz;have e0:MA=[]:=List.length_eq_zero_iff.1 hl;subst e0;refine(TM W).mono ?_;rintro e w'⟨rfl,hb⟩;exact⟨⟨none,0,rfl,fun i hi=>absurd hi (by simp)⟩,hb⟩
  ·have hpos:0<kT IY n:=by
    obtain⟨m,rfl⟩:∃m,n=m+1:=⟨n-1,by omega⟩;have:=(kK m (by omega)).1;rw[←FD m (by omega)]at this;show 0<kT IY m+_;omega
   refine(Qm va n vc IY W hll (by omega) (fun i hi=>by rw[FD i hi];have:=(kK i hi).2;omega) (fun i hi=>by rw[FD i hi];exact(kK i hi).1) hpos rl).mono ?_;rintro e w'⟨⟨g,cap,rfl,hr⟩,hb⟩;rw[oo];rw[hall]at hr;exact⟨⟨_,_,rfl,hr⟩,hb⟩
 ·refine(Td 66 #[bA (some ⟨Bf,0,none⟩)] (nH func66 (by kernel_rfl) rfl) pa _ pc MA.flatten (fun k=>CS fs (MA.flatten.getD k default)) W rfl (by omega) rp (fun i hi W2 h2=>?_)).mono ?_
  ·obtain⟨⟨s,hs,J2⟩,h3,h4⟩:=NC _ (eB hi default);have:=vj Bf a nf ca fs (MA.flatten.getD i default) s W2 (hE.below (aU hW h2)) hf hs J2 bf hdir h3 h4 (rf.below (aU hW h2)) (hb.below h2 hb.lt);exact this
  ·rintro e w'⟨rfl,Ch⟩;exact⟨by rw[Tw],Ch⟩
 ·refine(Td 68 #[] (nH XO (by kernel_rfl) rfl) pa _ pc MA.flatten (fun k=>L9 (MA.flatten.getD k default)) W rfl (by omega) rp (fun i hi W2 h2=>?_)).mono ?_
  ·obtain⟨-,h3,h4⟩:=NC _ (eB hi default);rw[Array.append_empty];exact vk (MA.flatten.getD i default) W2 (hE.below (aU hW h2)) h3 h4
  ·rintro e w'⟨rfl,Ch⟩;exact⟨by rw[Tw],Ch⟩
section
attribute[local go_sem] dW
theorem cz{y:List UInt8}(h:gT y=0):J0 [y] [y].length=0:=by
 simp[J0,sS,h]
theorem da{fs:List Fr}{x y:List UInt8}{ls:List Lp}(h:iL fs [x,y] ls=0):iL fs [y] ls=0:=by
 have hy:=(Qc h).2.1 y (by simp);unfold iL at h⊢;by_cases h1:xM fs=true
 ·rw[ip h1]at h;cases h
 rw[iN h1]at h⊢;rw[iN (fun k=>k (cz hy))];by_cases h2:J0 [x,y] [x,y].length=0
 ·rwa[iN (fun k=>k h2)]at h
 ·rw[ip h2]at h;exact absurd h h2
theorem chkT_f{fs:List Fr}{zs:List (List UInt8)}{ls:List Lp}(h:iL fs zs ls=0):fs.length≤24:=by
 rcases fK 24 fs.length with c|c
 ·rw[Yu c]at h;cases h
 ·exact c
structure MoveE(a:Option cT)(nf ca:Nat)(fs:List Fr)(x y:List UInt8)(w:aF):Prop where
 seq:∀W Bf,Below w.heap.size w W→bT W Bf #[aB a nf ca] 25→SeqH Fence.wide 8 aC 139 #[bA (some ⟨Bf,0,none⟩)] (fun z:Rat=> #[aA (bs (bJ z))]) (fun _ z=>HQ 198 z∧tx fs z) (fun k=>∀z,tx fs z→z∈k) (jA w.heap.size) W
 lo:∀z,HQ 198 z→∀W,Below w.heap.size w W→aW aC 61 #[aA (bs x),aA (bs (bJ z))] W fun e w'=>(∃c:Int,e=aQ (aD aE c)∧(c<0↔dD x<z))∧Below W.heap.size W w'
 hi:∀z,HQ 198 z→∀W,Below w.heap.size w W→aW aC 61 #[aA (bs (bJ z)),aA (bs y)] W fun e w'=>(∃c:Int,e=aQ (aD aE c)∧(c<0↔z<dD y))∧Below W.heap.size W w'
theorem OF(a b:Rat):tG a b<0↔a<b:=by
 have:=ve a b;simpa using this
theorem moveE(a:Option cT)(nf ca:Nat)(fs:List Fr)(x y:List UInt8)(w:aF)(hE:iM w)(hf:fs.length=nf)(bf:nf≤24)(Ql:nf≤ca)(hOk:∀f∈fs,f.Ok)(hx:gT x=0)(hy:gT y=0)(rf:zR w a fs):MoveE a nf ca fs x y w:={
 seq W Bf hW hb:=ev_seq vd Bf w.heap.size a nf ca fs hf bf hOk W hW.size hb.lt (fun V hV=>hE.below (hW.trans hV)) (fun V hV=>rf.below (hW.trans hV)) Ql hb
 lo z hz W hW:=by
  obtain⟨h0,h1,e1⟩:=E6 hx;have:=mN (bs x) (bs (bJ z)) W (hE.below hW) (by rw[cZ];exact Oo hx) (by rw[cZ];have Yp:HQ 300 z:=hz.mono (by decide);have:=L8 Yp.1 Yp.2;omega);rw[bP,bP]at this;refine this.mono ?_;rintro e w'⟨rfl,hb⟩;have a:=IA h1 hz (by decide);rw[e1]at a;exact⟨⟨_,rfl,by rw[a];exact OF _ _⟩,hb⟩
 hi z hz W hW:=by
  obtain⟨h0,h1,e1⟩:=E6 hy;have:=mN (bs (bJ z)) (bs y) W (hE.below hW) (by rw[cZ];have Yp:HQ 300 z:=hz.mono (by decide);have:=L8 Yp.1 Yp.2;omega) (by rw[cZ];exact Oo hy);rw[bP,bP]at this;refine this.mono ?_;rintro e w'⟨rfl,hb⟩;have a:=IA hz h1 (by decide);rw[e1]at a;exact⟨⟨_,rfl,by rw[a];exact OF _ _⟩,hb⟩}
theorem OG{F:Fence}{n:Nat}{P:Program}{fn:Func}{R:Ending→aF→Prop}{a:Act}{w:aF}{v:aS}(h:(results fn a.tmps).run P w=.ok v w)(hd:a.defers=[])(hR:R (aQ v) w):bodyPostM F n P fn R .ret a w:=by
 show LeavesInM _ _ _ _ _ _ _ _ _;rw[hd];exact⟨v,h,hR⟩
theorem TN{k:List Rat}{z lo hi:Rat}(h:∀t∈k,¬(lo<t∧t<hi))(hz:¬(lo<z∧z<hi)):∀t∈k++[z],¬(lo<t∧t<hi):=fun t ht=>by
 rcases List.mem_append.1 ht with h'|h'
 ·exact h t h'
 ·rw[List.mem_singleton.1 h'];exact hz
theorem zT.other{hs:Nat}{a:Option cT}{nf ca:Nat}{X Y:ByteArray}{W:aF}(h:zT hs a nf ca X Y W){p:cT}(v:aS)(hp:hs+1+1+1+1<p.block):zT hs a nf ca X Y (W.setCell p v):=
 ⟨h.1.other v (by omega),h.2.1.other v (by omega),h.2.2.1.other v (by omega),h.2.2.2.1.other v (by omega),h.2.2.2.2.other v (by omega)⟩
theorem OH{W:aF}{a:Option cT}{zs:List (List UInt8)}{T:Nat}{a1 a2:Option cT}{n1 c1 n2 c2:Nat}{T':TypeId}(h:Ek W a zs)(q:bT W T #[aB a1 n1 c1,aB a2 n2 c2] T')(j:Nat)(v:aS):Ek (W.setCell ⟨T,j,none⟩ v) a zs:=by
 intro i hi;obtain⟨b,off,e,hc⟩:=h i hi;refine⟨b,off,e,?_⟩;by_cases hb:b=T
 ·subst hb;rw[q.cell (off+i)]at hc;rcases fK (off+i) 2 with hl|hl
  ·match hk:off+i,hl with
   |0,_=>rw[hk]at hc;cases hc
   |1,_=>rw[hk]at hc;cases hc
  ·rw[Array.getElem?_eq_none (by simpa using hl)]at hc;cases hc
 ·rw[World.cell?_of_block (heap_setCell_other W ⟨T,j,none⟩ b v hb)];exact hc
theorem zT.own{hs:Nat}{a:Option cT}{nf ca:Nat}{X Y:ByteArray}{W W':aF}{lM:Option Nat}(h:zT hs a nf ca X Y W)(hg:W.grownBy W' lM)(hr:∀r,lM=some r→∃o:Obj,W.heap[r]? =some o∧o.isCells=false):zT hs a nf ca X Y W':=
 ⟨h.1.own hg hr,h.2.1.own hg hr,h.2.2.1.own hg hr,h.2.2.2.1.own hg hr,h.2.2.2.2.own hg hr⟩
theorem Md:∀(ps:List Pt)(i:Nat)(t:List UInt8),i<ps.length→(dH ps).set (i*3+2) (aA (bs t))=dH (ps.set i {ps.getD i default with en:=t})
 |[],i,t,h=>by simp at h
 |q::qs,0,t,_=>rfl
 |q::qs,i+1,t,h=>by
  have ih:=Md qs i t (by simpa using h)
  have e:dH (q::qs)=aD aE q.side::aA (bs q.fr)::aA (bs q.en)::dH qs:=rfl
  rw[show(i+1)*3+2=(i*3+2)+1+1+1 by omega,e]
  simp only[bC,Fu]
  rw[ih];rfl
theorem Me:∀(ps:List Pt)(i:Nat)(t:List UInt8),i<ps.length→(dH ps).set (i*3+1) (aA (bs t))=dH (ps.set i {ps.getD i default with fr:=t})
 |[],i,t,h=>by simp at h
 |q::qs,0,t,_=>rfl
 |q::qs,i+1,t,h=>by
  have ih:=Me qs i t (by simpa using h)
  have e:dH (q::qs)=aD aE q.side::aA (bs q.fr)::aA (bs q.en)::dH qs:=rfl
  rw[show(i+1)*3+1=(i*3+1)+1+1+1 by omega,e]
  simp only[bC,Fu]
  rw[ih];rfl
theorem OI{fs:List Fr}{at':List (List UInt8)}{ps:List Pt}(h2:2≤ps.length)(i:Nat)(hi:i≤ps.length)(k:Nat)(hk:k<ps.length):((Fb fs at' ps i).getD k default).side=(ps.getD k default).side:=by rw[Qg h2 i hi k hk]
theorem TO{fs:List Fr}{at':List (List UInt8)}{ps:List Pt}{i q:Nat}(h2:2≤ps.length)(hi:i<ps.length)(hq:(i+1)%ps.length=q)(hu:wM fs (ps.getD i default)≠wM fs (ps.getD q default)):
 ((dH ps).set (i*3+2) (aA (bs (at'.getD (ps.getD q default).side.toNat [])))).set (q*3+1) (aA (bs (at'.getD (ps.getD i default).side.toNat [])))=dH (Em fs at' ps i):=by
 have hql:q<ps.length:=by rw[←hq];exact fU _ (by omega)
 rw[Md _ _ _ hi,Me _ _ _ (by simpa using hql)];unfold Em;rw[hq,iN hu]
theorem WS{fs:List Fr}{at':List (List UInt8)}{ps:List Pt}{i q:Nat}(hq:(i+1)%ps.length=q)(hu:wM fs (ps.getD i default)=wM fs (ps.getD q default)):Em fs at' ps i=ps:=by
 unfold Em;rw[hq,ip hu]
theorem keepDF{W:aF}{p:cT}{b:Bool}(h:W.frozen? p=b):W.drew.frozen? p=b:=h
theorem keepSF{W:aF}{p q:cT}{b:Bool}{v:aS}(h:W.frozen? p=b):(W.setCell q v).frozen? p=b:=by rw[World.frozen?_setCell];exact h
theorem keepDL{W:aF}{g:Nat}(h:g<W.heap.size):g<W.drew.heap.size:=h
theorem keepSL{W:aF}{g:Nat}{q:cT}{v:aS}(h:g<W.heap.size):g<(W.setCell q v).heap.size:=by rw[World.size_setCell];exact h
theorem keepS{W:aF}{p q:cT}{v u:aS}(jC:p≠q)(h:W.cell? p=some v):(W.setCell q u).cell? p=some v:=(World.cell?_setCell_other _ _ _ _ (Ne.symm jC)).trans h
structure MoveF(a b:Option cT)(nf n ca cb:Nat)(fs:List Fr)(ls:List Lp)(x y:List UInt8)(w:aF):Prop where
 tracer1:∀W g,Below w.heap.size w W→bT W g #[aA (bs y)] 27→aW aC 37 #[aB a nf ca,aB b n cb,aB (some ⟨g,0,none⟩) 1 1] W fun e w'=>(∃a3 c3,e=aQ (cC #[cN #[aB a nf ca,aB a3 nf c3],aD aE 0])∧Ek w' a3 (oZ fs y))∧Below W.heap.size W w'
 rf:∀W,Below w.heap.size w W→zR W a fs
 rl:∀W,Below w.heap.size w W→E5 W b ls
 flen:fs.length=nf
 len:ls.length=n
 alen:(oZ fs y).length=nf
 nn:n≤24
 size:tK fs (oZ fs x) ls true=true→∀i,i<n→4≤(ls.getD i default).ps.length∧(ls.getD i default).ps.length≤96
 side:tK fs (oZ fs x) ls true=true→∀i,i<n→∀j,j<(ls.getD i default).ps.length→∃s:Nat,((ls.getD i default).ps.getD j default).side=s∧s<nf
theorem WU (a b : Option cT) (nf n ca cb : Nat) (fs : List Fr) (ls : List Lp) (x y : List UInt8) (w : aF) (H : vm a b nf n ca cb fs ls x y w) (He : MoveE a nf ca fs x y w) (Hf : MoveF a b nf n ca cb fs ls x y w) (Hh : tK fs (oZ fs x) ls true = true → MoveH a nf n ca fs (iY fs (oZ fs y) ls) w) (h0 : iL fs [x, y] ls = 0)
 (hx : gT x = 0) (hy : gT y = 0) :
 aW aC 26 #[aB a nf ca, aB b n cb, aA (bs x), aA (bs y)] w (TH w (rI fs ls x y) (lD fs ls x y)) := by
 have RX : bH (∀ c, lD fs ls x y = c → c ≠ 0 → ∀ W, Below w.heap.size w W → TH w (rI fs ls x y) (lD fs ls x y) (aQ (cC #[aB none 0 0, aD aE c])) W) := fun c hc hc0 W hB =>
  ⟨⟨none, 0, [], by rw [BF (by rw [hc]; exact hc0), hc]; rfl, by rw [BF (by rw [hc]; exact hc0)]; rfl, fun i hi => absurd hi (by simp)⟩, hB⟩
 have Fy := wN fs ls x y
 have HX1 : bH (tK fs (oZ fs x) ls true = false → ∀ W, Below w.heap.size w W → TH w (rI fs ls x y) (lD fs ls x y) (aQ (cC #[aB none 0 0, aD aE 1])) W) := fun h => RX.out 1 (Fy.2.1 h0 h) (by decide)
 have HX2 : bH (tK fs (oZ fs x) ls true = true → (0 < (iE x y).1) → ∀ W, Below w.heap.size w W → TH w (rI fs ls x y) (lD fs ls x y) (aQ (cC #[aB none 0 0, aD aE 2])) W) := fun h k => RX.out 2 (Fy.2.2.1 h0 h (.inl ((TK hx hy).1 k))) (by decide)
 have HX3 : bH (tK fs (oZ fs x) ls true = true → evB fs x y → ∀ W, Below w.heap.size w W → TH w (rI fs ls x y) (lD fs ls x y) (aQ (cC #[aB none 0 0, aD aE 2])) W) := fun h k => RX.out 2 (Fy.2.2.1 h0 h (.inr k)) (by decide)
 have HX5 : bH (tK fs (oZ fs x) ls true = true → ¬ (0 < (iE x y).1) → ¬ evB fs x y → lD fs ls x y = if ((iY fs (oZ fs y) ls).flatten.any (CS fs)) = true then 2 else if ((iY fs (oZ fs y) ls).flatten.any L9) = true then 4 else 0) := fun h k => Fy.2.2.2 h0 h (fun q => k ((TK hx hy).2 q))
 have OB : bH (lD fs ls x y = 0 → rI fs ls x y = iY fs (oZ fs y) ls) := IX
 have HRX := RX
 have HMc := zq Hh
 have h1n : (0 < [x, y].length) := by simp
 obtain ⟨W0, eQ, Cj, fA⟩ := zT.new a nf ca (bs x) (bs y) w
 have HC := zq (H.tracer2 (W0.alloc (aJ #[aA (bs x), aA (bs y)] 27)) W0.heap.size (fA.alloc fA.size _) (bT.new W0 _ _))
 have LR := zq (H.all h0)
 have db := zq H.cmp
 have HSeq := zq He.seq
 have HLo := zq He.lo
 have HHi := zq He.hi
 have Bv := zq (Cj.alloc (aJ #[aA (bs x), aA (bs y)] 27))
 have gY := zq (fA.alloc fA.size (aJ #[aA (bs x), aA (bs y)] 27))
 have Bx := zq Cj
 have Tj := zq Hf.tracer1
 have HRf := zq Hf.rf
 have HRl := zq Hf.rl
 have HFl := zq Hf.flen
 have HLl := zq Hf.len
 have HAl := zq Hf.alen
 have HNn := zq Hf.nn
 have HSz := zq Hf.size
 have Wg := zq Hf.side
 clear H He Hf Hh RX Fy Cj fA
 unfold P9 at HC
 have e0 : [x, y].getD 0 [] = x := rfl
 rw [e0, h0] at HC
 clear e0
 generalize rI fs ls x y = PV at *
 generalize lD fs ls x y = PE at *
 generalize tK fs (oZ fs x) ls true = al at *
 have pj : bH ((0 : Int) < (iE x y).1 ↔ (0 : Int) < (iE x y).1) := Iff.rfl
 generalize (iE x y).1 = cq at *
 have Hat : bH (oZ fs x = oZ fs x) := rfl
 generalize oZ fs x = ax at *
 obtain ⟨IZ, hty⟩ : ∃ t, oZ fs y = t := ⟨_, rfl⟩
 rw [hty] at Tj HAl HX5 OB HMc
 have Hty := zq hty
 clear hty
 have H1n := zq h1n
 generalize [x, y].length = zl at *
 clear pj Hat h1n hx hy h0
 generalize hX : bs x = X at *
 generalize hY : bs y = Y at *
 refine dE func26 rfl ?_
 simp only [ntmps26, bW, bF, bY, Nat.reduceAdd, Nat.reduceSub, Array.replicate_succ, Array.replicate_zero, List.push_toArray, List.append_toArray, List.nil_append, List.cons_append]
 go_upto_region 1 with (fail)
 try rw [eQ]
 have b4 := Bx.out.1.cell 0
 have b6 := Bx.out.2.1.cell 0
 have b7 := Bx.out.2.2.1.cell 0
 have l4 := Bx.out.1.lt
 have l6 := Bx.out.2.1.lt
 have l7 := Bx.out.2.2.1.lt
 simp only [aL, aI] at b4 b6 b7
 clear eQ
 go_wp2_with fail
 refine HC.out.mono ?_
 rintro e W1 ⟨⟨a1, n1, c1, a2, n2, c2, rfl, hk⟩, hb1⟩
 obtain ⟨e1, e2, e3, hq⟩ := hk trivial
 obtain ⟨e4, hr⟩ := hq (by first | exact trivial | exact H1n.out)
 have e1 := e1.symm; have e2 := e2.symm; have e3 := e3.symm; have e4 := e4.symm
 subst e1; subst e2; subst e3; subst e4
 have eW := zq (aU gY.out hb1)
 have Fe := zq (Bv.out.below hb1)
 have Hra := zq hr
 clear hb1 b4 b6 b7 l4 l6 l7 hr hq hk HC Bv gY Bx H1n
 go_upto_region 2 with (fail)
 obtain ⟨W2, Ii⟩ : ∃ V, W1.alloc (aJ #[aB a nf ca, aB a2 nf c2] 70) = V := ⟨_, rfl⟩
 have HT : bH (bT W2 W1.heap.size #[aB a nf ca, aB a2 nf c2] 70) := by rw [← Ii]; exact bT.new _ _ _
 have dc : bH (zT w.heap.size a nf ca X Y W2) := by rw [← Ii]; exact Fe.out.alloc _
 have fR : bH (Below w.heap.size w W2) := by rw [← Ii]; exact eW.out.alloc eW.out.size _
 have HT1 : bH (w.heap.size + 1 + 1 + 1 + 1 < W1.heap.size) := Fe.out.2.2.2.2.lt
 have TP : bH (Ek W2 a2 ax) := by rw [← Ii]; exact Hra.out.below ((aH _ _).alloc (aG _) _)
 rw [Ii]
 have HA := zq (LR.out a2 c2 W2 fR.out TP.out)
 clear Ii eW Fe Hra LR TP
 generalize W1.heap.size = T at *
 obtain ⟨k0, k1, z0, z1, lT⟩ := HT.out.two
 go_wp2_with fail
 refine HA.out.mono ?_
 rintro e W3 ⟨rfl, hb3⟩
 have HB3 := zq (aU fR.out hb3)
 have Ff := zq (dc.out.below hb3)
 have Ty := zq (HT.out.below hb3 HT.out.lt)
 clear hb3 k0 k1 z0 z1 lT fR dc HT HA
 cases al with
 | false =>
  have HX := zq (HX1.out rfl)
  clear HX1 HX2 HX3 db Ty HT1
  have r8 := Ff.out.2.2.2.1.cell 0
  have r9 := Ff.out.2.2.2.2.cell 0
  have z8 := Ff.out.2.2.2.1.fz 0
  have z9 := Ff.out.2.2.2.2.fz 0
  have l8 := Ff.out.2.2.2.1.lt
  have l9 := Ff.out.2.2.2.2.lt
  simp only [aL, aI] at r8 r9
  go_wp2
  obtain ⟨V, hV, b1, b2, Ae⟩ := Ff.out.err (aB none 0 0) 1
  rw [hV]
  exact OG (iR pS _ _ (w.heap.size + 1 + 1 + 1) (w.heap.size + 1 + 1 + 1 + 1) (aB none 0 0) (aD aE 1) rfl rfl (b1.cell 0) (b2.cell 0) tP tQ) rfl (HX.out _ (Ae _ HB3.out))
 | true =>
  have HY2 := zq (HX2.out rfl)
  have HY3 := zq (HX3.out rfl)
  have HY5 := zq (HX5.out rfl)
  have HMh := HMc.out rfl
  have HSz2 := zq (HSz.out rfl)
  have HSd2 := zq (Wg.out rfl)
  clear HX1 HX2 HX3 HX5 HMc HSz Wg
  have b6 := Ff.out.2.1.cell 0
  have b7 := Ff.out.2.2.1.cell 0
  simp only [aL, aI] at b6 b7
  go_wp2_with fail
  refine (db.out _ HB3.out).mono ?_
  rintro e W4 ⟨rfl, hb4⟩
  have zG := zq (aU HB3.out hb4)
  have AC := zq (Ff.out.below hb4)
  have HT4 := zq (Ty.out.below hb4 Ty.out.lt)
  clear hb4 b6 b7 HB3 Ff Ty
  by_cases hc : 0 < cq
  ·have HX := zq (HY2.out hc)
   clear HY2 HY3 db HT4 HT1
   have r8 := AC.out.2.2.2.1.cell 0
   have r9 := AC.out.2.2.2.2.cell 0
   have z8 := AC.out.2.2.2.1.fz 0
   have z9 := AC.out.2.2.2.2.fz 0
   have l8 := AC.out.2.2.2.1.lt
   have l9 := AC.out.2.2.2.2.lt
   simp only [aL, aI] at r8 r9
   go_wp2
   obtain ⟨V, hV, b1, b2, Ae⟩ := AC.out.err (aB none 0 0) 2
   rw [hV]
   exact OG (iR pS _ _ (w.heap.size + 1 + 1 + 1) (w.heap.size + 1 + 1 + 1 + 1) (aB none 0 0) (aD aE 2) rfl rfl (b1.cell 0) (b2.cell 0) tP tQ) rfl (HX.out _ (Ae _ zG.out))
  ·have HZ5 := zq (HY5.out (by omega))
   clear HY5
   have b4 := AC.out.1.cell 0
   simp only [aL, aI] at b4
   go_wp2_with fail
   refine (ct a nf ca W4).mono ?_
   rintro e W5 ⟨rfl, SU⟩
   have HBe : bH (bT W5 W4.heap.size #[aB a nf ca] 25) := by rw [SU]; exact bT.new _ _ _
   have hb5 : Below W4.heap.size W4 W5 := by rw [SU]; exact (aH _ _).alloc (aG _) _
   have yI := zq (aU zG.out hb5)
   have I0 := zq (AC.out.below hb5)
   have HT5 := zq (HT4.out.below hb5 HT4.out.lt)
   clear SU hb5 zG AC HT4 b4
   generalize W4.heap.size = Be at *
   clear HY2
   go_wp2_with fail
   have HNo0 : bH (∀ z ∈ ([] : List Rat), ¬ (dD x < z ∧ z < dD y)) := fun z h => absurd h (by simp)
   refine WP (gf := 139) (lb := #[bA (some ⟨Be, 0, none⟩)]) rfl (nH func139 (by kernel_rfl) rfl) (HSeq.out W5 Be yI.out HBe.out) jA.trans (jA.putObj yI.out.size) (fun _ => rfl)
    (fun k W => ((zT w.heap.size a nf ca X Y W ∧ bT W T #[aB a nf ca, aB a2 nf c2] 70) ∧ bH (∀ z ∈ k, ¬ (dD x < z ∧ z < dD y))) ∧ Below w.heap.size w W)
    (fun c k W => ((bT W (w.heap.size + 1 + 1 + 1) #[aB none 0 0] 26 ∧ bT W (w.heap.size + 1 + 1 + 1 + 1) #[aD aE 2] 32) ∧ c = .ret ∧ evB fs x y) ∧ Below w.heap.size w W)
    (cU (Own.from (fun s A B lM hs hg hr => ⟨⟨hs.1.1.own hg hr, hs.1.2.own hg hr⟩, hs.2⟩) _) (oA (aG _) yI.out.size))
    (fun c => cU (Own.from (fun s A B lM hs hg hr => ⟨⟨hs.1.1.own hg hr, hs.1.2.own hg hr⟩, hs.2⟩) _) (oA (aG _) yI.out.size))
    ⟨⟨⟨I0.out, HT5.out⟩, HNo0⟩, yI.out⟩
    ?Jp ?assign ?body ?done ?stop
   case assign =>
    intro l z W K hK
    gi_wp2
    exact hK
   case body =>
    rintro l k z W ⟨hz, hzv⟩ ⟨⟨⟨Cj, hT⟩, hNo⟩, hB⟩
    have HL := zq (HLo.out z hz W hB)
    have HH := zq (HHi.out z hz)
    have HzE := zq hzv
    have Bv := zq Cj
    have HT := zq hT
    have HB := zq hB
    have HNo := zq hNo.out
    have b6 := Cj.2.1.cell 0
    simp only [aL, aI] at b6
    clear hz hzv Cj hT hNo hB HBe yI I0 HT5 HNo0 HSeq HLo HHi db
    generalize bs (bJ z) = Z at *
    gi_wp2_with fail
    refine ⟨trivial, (Calls.round HL.out _ _).mono ?_⟩
    rintro e W6 ⟨⟨c1, rfl, hc1⟩, hb6⟩
    have FC := zq (aU HB.out hb6)
    have HA6 := zq hb6
    have HBx6 := zq (Bv.out.below hb6)
    have HT6 := zq (HT.out.below hb6 HT.out.lt)
    have dd := zq hc1
    clear hb6 hc1 b6 Bv HT
    by_cases h1 : c1 < 0
    ·have b7 := HBx6.out.2.2.1.cell 0
     simp only [aL, aI] at b7
     have HCz := zq (dd.out.1 h1)
     gi_wp2_with fail
     refine ⟨trivial, (Calls.round (HH.out _ FC.out) _ _).mono ?_⟩
     rintro e W7 ⟨⟨c2, rfl, hc2⟩, hb7⟩
     have Ku := zq (aU FC.out hb7)
     have HA7 := zq (aU HA6.out hb7)
     have TQ := zq (HBx6.out.below hb7)
     have HT7 := zq (HT6.out.below hb7 HT6.out.lt)
     have bo := zq hc2
     clear hb7 hc2 b7 HBx6 HT6 FC HA6
     by_cases h2 : c2 < 0
     ·have HEv : bH (evB fs x y) := ⟨z, HzE.out, HCz.out, bo.out.1 h2⟩
      have r8 := TQ.out.2.2.2.1.cell 0
      have r9 := TQ.out.2.2.2.2.cell 0
      have z8 := TQ.out.2.2.2.1.fz 0
      have z9 := TQ.out.2.2.2.2.fz 0
      have l8 := TQ.out.2.2.2.1.lt
      have l9 := TQ.out.2.2.2.2.lt
      simp only [aL, aI] at r8 r9
      gi_wp2
      have hK : KeepsFrom W5.heap.size W ((W7.setCell ⟨w.heap.size + 1 + 1 + 1, 0, none⟩ (aB none 0 0)).setCell ⟨w.heap.size + 1 + 1 + 1 + 1, 0, none⟩ (aD aE 2)) := (((iC HA7.out).trans (cG _ _ _)).trans (cG _ _ _)).from _
      obtain ⟨V, hV, b1, b2, Ae⟩ := TQ.out.err (aB none 0 0) 2
      rw [hV] at hK ⊢
      exact ⟨hK, ⟨⟨b1, b2⟩, rfl, HEv.out⟩, Ae _ Ku.out⟩
     ·have HN2 := zq (TN HNo.out (fun h => h2 (bo.out.2 h.2)))
      gi_wp2
      exact ⟨(iC HA7.out).from _, jA.call HA7.out HB.out.size, ⟨⟨TQ.out, HT7.out⟩, HN2⟩, Ku.out⟩
    ·have HN2 := zq (TN HNo.out (fun h => h1 (dd.out.2 h.1)))
     gi_wp2
     refine ⟨trivial, ?_⟩
     gi_wp2
     exact ⟨(iC HA6.out).from _, jA.call HA6.out HB.out.size, ⟨⟨HBx6.out, HT6.out⟩, HN2⟩, FC.out⟩
   case done =>
    rintro D W hD ⟨k, hF, ⟨⟨Cj, hT⟩, hNo⟩, hB⟩ hK
    have Bv := zq Cj
    have HT := zq hT
    have HB := zq hB
    have HK := zq hK
    have HD := zq (bE yI.out.size hD)
    have HDl := zq ((Array.getElem?_eq_some_iff.1 hK).1)
    have HNE : bH (¬ evB fs x y) := fun ⟨z, h1, h2⟩ => hNo.out z (hF z h1) h2
    have HU5 := zq (HZ5.out HNE.out)
    have b4 := Cj.1.cell 0
    have b7 := Cj.2.2.1.cell 0
    simp only [aL, aI] at b4 b7
    clear Cj hT hB hK hD hF hNo HBe yI I0 HT5 HNo0 HSeq HLo HHi db HY3 HZ5
    go_wp2_with fail
    refine (Tj.out _ W.heap.size (HB.out.alloc HB.out.size _) (bT.new W _ _)).mono ?_
    rintro e V1 ⟨⟨a3, c3, rfl, hra⟩, hb1⟩
    have Lu : Below W.heap.size W V1 := ((aH _ W).alloc (aG _) _).trans (hb1.mono (by simp))
    have eW := zq (aU HB.out Lu)
    have Fe := zq (Bv.out.below Lu)
    have vn := zq (HT.out.below Lu HT.out.lt)
    have HK1 := zq ((Lu.block D HDl.out).trans HK.out)
    have HDl1 : bH (D < V1.heap.size) := by have h1 := HDl.out; have h2 := Lu.size; show _ < _; omega
    have Hra := zq hra
    clear hb1 hra Lu b4 b7 HB Bv HT HK Tj HDl
    obtain ⟨k0, k1, z0, z1, lT⟩ := vn.out.two
    go_upto_region 13 with (fail)
    obtain ⟨V2, jw⟩ : ∃ V, (V1.setCell ⟨T, 0, none⟩ (aB a nf ca)).setCell ⟨T, 1, none⟩ (aB a3 nf c3) = V := ⟨_, rfl⟩
    have Vh : bH (bT V2 T #[aB a nf ca, aB a3 nf c3] 70) := by rw [← jw]; exact (vn.out.set 0 _).set 1 _
    have dc : bH (zT w.heap.size a nf ca X Y V2) := by rw [← jw]; exact (Fe.out.other _ HT1.out).other _ HT1.out
    have hTl : w.heap.size ≤ T := by have := HT1.out; omega
    have HDl2 : bH (D < V2.heap.size) := by rw [← jw]; show _ < _; simpa using HDl1.out
    have fR : bH (Below w.heap.size w V2) := by rw [← jw]; exact (eW.out.setCell (p := ⟨T, 0, none⟩) hTl _).setCell (p := ⟨T, 1, none⟩) hTl _
    have br : bH (V2.heap[D]? = some (.deferred (some []))) := by rw [← jw]; exact ((cG _ _ _).trans (cG _ _ _)).same D _ HK1.out rfl
    have TP : bH (Ek V2 a3 IZ) := by rw [← jw]; exact OH (OH Hra.out vn.out 0 _) (vn.out.set 0 _) 1 _
    rw [jw]
    clear jw eW Fe vn HK1 HDl1 Hra k0 k1 z0 z1 lT hTl
    go_wp2
    go_loopw [13, 65] (fun v i wr => ∃ (k vc : Nat) (va : Option cT) (IY : List Lp), v = aB va k vc ∧ (k = 0 → va = none ∧ vc = 0) ∧ i = aD aE (k : Int) ∧ k ≤ n ∧ bH (jP V2.heap.size wr v IY) ∧ bH (IY.map Lp.ps = (iY fs IZ ls).take k) ∧ bH (Below V2.heap.size V2 wr)) (fun _ i _ => n - (aK i).toNat)
    case atStart => exact ⟨0, 0, none, [], rfl, fun _ => ⟨rfl, rfl⟩, rfl, bN _, ⟨⟨rfl, .inl ⟨rfl, rfl⟩⟩, fun l h => absurd h (by simp)⟩, rfl, aH _ _⟩
    case round =>
     rename aF => wo
     obtain ⟨k, vc, va, IY, rfl, hva, rfl, hk, HO, HP, E9⟩ := hrel
     have Hva := zq hva
     clear hva
     have vR := zq (fR.out.trans (E9.out.mono fR.out.size))
     by_cases hlt : k < n
     ·obtain ⟨lb, lo, rfl, c0, wG⟩ := (HRl.out _ vR.out).at (i := k) (by rw [HLl.out]; exact hlt) rfl
      have HSzk := zq (HSz2.out k hlt)
      have HSdk := zq (HSd2.out k hlt)
      have Hmv : bH ((iY fs IZ ls).take (k + 1) = (iY fs IZ ls).take k ++ [xN fs IZ (ls.getD k default).ps]) := by
       show _ = _
       have hl : k < (iY fs IZ ls).length := by rw [BE, HLl.out]; exact hlt
       rw [dU hl, ← OA (by rw [HLl.out]; exact hlt)]
       simp [aO, hl]
      generalize ls.getD k default = l at *
      obtain ⟨lpb, lpo, hla, -⟩ := wG 0 (by have := HSzk.out.1; omega)
      have HCl := zq (TI lpb lpo l.ps.length l.cap l.ps wo rfl (by have := HSzk.out.2; omega) (by rw [← hla]; exact wG))
      obtain ⟨m, hm⟩ : ∃ m, l.ps.length = m := ⟨_, rfl⟩
      have hm4 : 4 ≤ m ∧ m ≤ 96 := by rw [← hm]; exact HSzk.out
      rw [hla] at c0
      rw [hm] at c0 HCl
      have Hm := zq hm
      have HSdm : bH (∀ j, j < m → ∃ s : Nat, (l.ps.getD j default).side = s ∧ s < nf) := by show ∀ j, j < m → _; rw [← hm]; exact HSdk.out
      clear wG HSzk HSdk hm hla
      generalize l.cap = lc at *
      generalize l.ps = ps at *
      go_wp2_with fail
      refine HCl.out.mono ?_
      rintro e V3 ⟨⟨g, cap, rfl, hown⟩, hb3⟩
      have HRow := zq hown
      have HB3 := zq hb3
      clear hown hb3 HCl c0
      have HPL : bH (ps.length = m) := Hm
      go_wp2
      go_loopw [73] (fun i w2 => ∃ j : Nat, i = aD aE (j : Int) ∧ j ≤ m ∧ bH (w2.ownsRow wo.heap.size 47 3 (aB (some ⟨g, 0, none⟩) m cap) m (dH (Fb fs IZ ps j))) ∧ bH (Below wo.heap.size wo w2)) (fun i _ => m - (aK i).toNat)
      case atStart => exact ⟨0, rfl, bN _, HRow, HB3⟩
      case round =>
       clear HRow HB3
       obtain ⟨j, rfl, hj, de, Bh⟩ := hrel
       by_cases hjm : j < m
       ·rename aF => wi
        have bp := zq (E9.out.trans (Bh.out.mono E9.out.size))
        have HBwi := zq (fR.out.trans (bp.out.mono fR.out.size))
        have hqn : (j + 1) % m < m := fU _ (by omega)
        have Z8 := Ot j m
        obtain ⟨s1, Ei, ht1⟩ := HSdm.out j hjm
        obtain ⟨s2, FA, ht2⟩ := HSdm.out ((j + 1) % m) hqn
        have h2 : 2 ≤ ps.length := by rw [HPL.out]; omega
        have hML := CR fs IZ ps j
        rw [HPL.out] at hML
        have hS1 := OI (fs := fs) (at' := IZ) h2 j (by rw [HPL.out]; omega) j (by rw [HPL.out]; exact hjm)
        have hS2 := OI (fs := fs) (at' := IZ) h2 j (by rw [HPL.out]; omega) ((j + 1) % m) (by rw [HPL.out]; exact hqn)
        rw [Ei] at hS1
        rw [FA] at hS2
        obtain ⟨M', hM'⟩ : ∃ t, Fb fs IZ ps (j + 1) = t := ⟨_, rfl⟩
        have HMe := zq hM'
        have HSt : bH (M' = Em fs IZ (Fb fs IZ ps j) j) := by rw [← hM']; rfl
        clear hM'
        generalize Fb fs IZ ps j = M at *
        have WV : bH (wM fs (M.getD j default) ≠ wM fs (M.getD ((j + 1) % m) default) → ((dH M).set (j * 3 + 2) (aA (bs (IZ.getD s2 [])))).set ((j + 1) % m * 3 + 1) (aA (bs (IZ.getD s1 []))) = dH M') := fun hu => by
         have := TO (at' := IZ) (i := j) (by rw [hML]; omega) (by rw [hML]; exact hjm) (by rw [hML]) hu
         rw [hS1, hS2] at this
         rw [HSt.out]; exact this
        have HCe : bH (wM fs (M.getD j default) = wM fs (M.getD ((j + 1) % m) default) → M' = M) := fun hu => by
         rw [HSt.out]; exact WS (by rw [hML]) hu
        have hu1 : wM fs (M.getD j default) = (fs.getD s1 default).up := by unfold wM; rw [hS1]; rfl
        have hu2 : wM fs (M.getD ((j + 1) % m) default) = (fs.getD s2 default).up := by unfold wM; rw [hS2]; rfl
        rw [hu1, hu2] at WV HCe
        obtain ⟨d0, d1, d2⟩ := xO M j (by rw [hML]; exact hjm)
        obtain ⟨e0, e1, e2⟩ := xO M ((j + 1) % m) (by rw [hML]; exact hqn)
        rw [hS1] at d0
        rw [hS2] at e0
        clear hu1 hu2 Ei FA hS1 hS2 HSt
        generalize (j + 1) % m = q at *
        have r0 : wi.cell? ⟨g, j * 3, none⟩ = some (aD aE s1) := (de.out.cellAt (j * 3) (by omega)).trans d0
        have r1 : wi.cell? ⟨g, q * 3, none⟩ = some (aD aE s2) := (de.out.cellAt (q * 3) (by omega)).trans e0
        obtain ⟨ab, ao, rfl⟩ : ∃ ab ao, a = some ⟨ab, ao, none⟩ := by
         obtain ⟨x, y, e, -⟩ := (HRf.out _ HBwi.out) s1 (by rw [HFl.out]; exact ht1); exact ⟨x, y, e⟩
        obtain ⟨nb, no, rfl⟩ : ∃ nb no, a3 = some ⟨nb, no, none⟩ := by
         obtain ⟨x, y, e, -⟩ := TP.out s1 (by rw [HAl.out]; exact ht1); exact ⟨x, y, e⟩
        have U1 := (HRf.out _ HBwi.out).up (s := s1) (by rw [HFl.out]; exact ht1)
        have U2 := (HRf.out _ HBwi.out).up (s := s2) (by rw [HFl.out]; exact ht2)
        have A1 := (TP.out.below bp.out).get (s := s1) (by rw [HAl.out]; exact ht1)
        have A2 := (TP.out.below bp.out).get (s := s2) (by rw [HAl.out]; exact ht2)
        have b4 := (dc.out.below bp.out).1.cell 0
        obtain ⟨k0, k1, -, -, lT⟩ := (Vh.out.below bp.out Vh.out.lt).two
        simp only [aL, aI] at b4
        generalize (fs.getD s1 default).up = u1 at *
        generalize (fs.getD s2 default).up = u2 at *
        generalize bs (IZ.getD s1 []) = P1 at *
        generalize bs (IZ.getD s2 []) = P2 at *
        have jm : (j : Int) < (m : Int) := by omega
        have qm : (q : Int) < (m : Int) := by omega
        have n1 : (s1 : Int) < (nf : Int) := by omega
        have n2 : (s2 : Int) < (nf : Int) := by omega
        have p0 : (0 : Int) ≤ (j : Int) := by omega
        have q0 : (0 : Int) ≤ (q : Int) := by omega
        have w1 : IntKind.i64.wrap ((j : Int) + 1) = (j : Int) + 1 := aX _ (by omega)
        have hm0 : ¬ m = 0 := by omega
        clear d0 d1 e0 e2
        go_upto_region 22 with (fail)
        go_cut [19, 20] from 81 to 86 (fun v u W => v = bA (some ⟨g, j * 3, none⟩) ∧ u = bA (some ⟨g, q * 3, none⟩) ∧ ∃ nd, W = wi.drewN nd)
        case first =>
         go_quiet (fail)
         go_wp2
         go_meet
         case rel => exact ⟨rfl, rfl, _, rfl⟩
        case rest =>
        obtain ⟨rfl, rfl, dq, rfl⟩ := hcut
        go_upto_region 23 with (fail)
        go_cut [103] from 87 to 103 (fun v W => v = aN (!(u1 == u2)) ∧ ∃ nd, W = (wi.drewN dq).drewN nd)
        case first =>
         go_quiet (fail)
         go_wp2
         go_meet
         case rel => exact ⟨rfl, _, rfl⟩
        case rest =>
        obtain ⟨rfl, dq2, rfl⟩ := hcut
        go_upto_if 103 with (fail)
        obtain ⟨wd, YM⟩ : ∃ V, (wi.drewN dq).drewN dq2 = V := ⟨_, rfl⟩
        have R0 : wd.cell? ⟨g, j * 3, none⟩ = some (aD aE s1) := by rw [← YM]; exact r0
        have R1 : wd.cell? ⟨g, q * 3, none⟩ = some (aD aE s2) := by rw [← YM]; exact r1
        have B1 : wd.cell? ⟨nb, no + s1, none⟩ = some (aA P1) := by rw [← YM]; exact A1
        have B2 : wd.cell? ⟨nb, no + s2, none⟩ = some (aA P2) := by rw [← YM]; exact A2
        have K1 : wd.cell? ⟨T, 1, none⟩ = some (aB (some ⟨nb, no, none⟩) nf c3) := by rw [← YM]; exact k1
        have HRwd : bH (wd.ownsRow wo.heap.size 47 3 (aB (some ⟨g, 0, none⟩) m cap) m (dH M)) := by rw [← YM]; exact de.out
        have hgo : wo.heap.size ≤ g := (gG de.out).1
        have lg : g < wd.heap.size := by rw [← YM]; exact (gG de.out).2.1
        have hVo : V2.heap.size ≤ wo.heap.size := E9.out.size
        have hTV : T < V2.heap.size := Vh.out.lt
        have hnV : nb < V2.heap.size := World.block_lt_of_cell? V2 ⟨nb, no + s1, none⟩ (TP.out.get (s := s1) (by rw [HAl.out]; exact ht1))
        have f1 : wd.frozen? ⟨g, j * 3 + 2, none⟩ = false := by rw [← YM]; exact de.out.frozenAt _
        have f2 : wd.frozen? ⟨g, q * 3 + 1, none⟩ = false := by rw [← YM]; exact de.out.frozenAt _
        have F1 : wd.cell? ⟨g, j * 3 + 2, none⟩ = some (aA (bs (M.getD j default).en)) := by rw [← YM]; exact (de.out.cellAt (j * 3 + 2) (by omega)).trans d2
        have F2 : wd.cell? ⟨g, q * 3 + 1, none⟩ = some (aA (bs (M.getD q default).fr)) := by rw [← YM]; exact (de.out.cellAt (q * 3 + 1) (by omega)).trans e1
        have HBd : bH (Below wo.heap.size wo wd) := by rw [← YM]; exact cK (cK Bh.out _) _
        rw [YM]
        have Hgo := zq hgo
        have g1 : ¬ nb = g := by omega
        have g2 : ¬ g = nb := by omega
        have g3 : ¬ T = g := by omega
        have g4 : ¬ g = T := by omega
        have g5 : ¬ j * 3 = q * 3 + 1 := by omega
        have g6 : ¬ q * 3 = j * 3 + 2 := by omega
        have g7 : ¬ j * 3 + 2 = q * 3 + 1 := by omega
        have g8 : ¬ q * 3 + 1 = j * 3 + 2 := by omega
        generalize bs (M.getD j default).en = EE at *
        generalize bs (M.getD q default).fr = FF at *
        clear YM r0 r1 A1 A2 k0 k1 lT U1 U2 b4 bp HBwi Z8 d2 e1 hVo hTV hnV hgo
        by_cases hu : u1 = u2
        ·have hM := HCe.out hu
         have HRw2 : bH (wd.ownsRow wo.heap.size 47 3 (aB (some ⟨g, 0, none⟩) m cap) m (dH M')) := by rw [hM]; exact HRwd.out
         clear WV HCe hM de HRwd
         cases u1 <;> cases u2 <;> (try (exact absurd hu (by decide))) <;> clear hu
         all_goals
          go_wp2
          go_roundw
          case rel => exact ⟨j + 1, by go_num, by omega, by rw [HMe.out]; exact HRw2.out, HBd.out⟩
          case measure => simp only [aK]; omega
        ·have HC := zq (WV.out hu)
         cases u1 <;> cases u2 <;> (try (exact absurd rfl hu)) <;> clear hu
         all_goals
          go_wp2
          go_region_held3 (fun w' => w'.cell? ⟨g, j * 3, none⟩ = some (aD aE s1) ∧ w'.cell? ⟨g, q * 3, none⟩ = some (aD aE s2) ∧ w'.cell? ⟨nb, no + s1, none⟩ = some (aA P1) ∧ w'.cell? ⟨nb, no + s2, none⟩ = some (aA P2) ∧ w'.cell? ⟨T, 1, none⟩ = some (aB (some ⟨nb, no, none⟩) nf c3) ∧ w'.frozen? ⟨g, j * 3 + 2, none⟩ = false ∧ w'.frozen? ⟨g, q * 3 + 1, none⟩ = false ∧ g < w'.heap.size) ((refine ⟨?_, ?_, ?_, ?_, ?_, ?_, ?_, ?_⟩) <;> (repeat (first | assumption | refine keepS (by intro e; injection e with e1 e2; omega) ?_ | refine keepD ?_ | refine keepDF ?_ | refine keepSF ?_ | refine keepDL ?_ | refine keepSL ?_))) (fail)
          all_goals
           have HRn : bH ((((wd.setCell ⟨g, j * 3 + 2, none⟩ (aA P2)).setCell ⟨g, q * 3 + 1, none⟩ (aA P1)).drew).ownsRow wo.heap.size 47 3 (aB (some ⟨g, 0, none⟩) m cap) m (dH M')) := by
            have := ((HRwd.out.stored (j * 3 + 2) (aA P2)).1.stored (q * 3 + 1) (aA P1)).1
            rw [HC.out] at this
            exact this
           have HBn : bH (Below wo.heap.size wo (((wd.setCell ⟨g, j * 3 + 2, none⟩ (aA P2)).setCell ⟨g, q * 3 + 1, none⟩ (aA P1)).drew)) :=
            ((HBd.out.setCell (p := ⟨g, j * 3 + 2, none⟩) Hgo.out _).setCell (p := ⟨g, q * 3 + 1, none⟩) Hgo.out _).drew
           (try go_wp2)
           go_roundw
           case rel => exact ⟨j + 1, by go_num, by omega, by rw [HMe.out]; exact HRn.out, HBn.out⟩
           case measure => simp only [aK]; omega
       ·obtain rfl : m = j := by omega
        have hall : Fb fs IZ ps m = xN fs IZ ps := by rw [← HPL.out]; exact tw (by rw [HPL.out]; omega)
        rw [hall] at de
        have jx : bH ((xN fs IZ ps).length = m) := by show _ = _; rw [Fa]; exact HPL.out
        have HBo := zq (aU E9.out Bh.out)
        have IF := zq (HO.out.below Bh.out)
        have HL2 := zq (mZ de.out E9.out.size)
        generalize xN fs IZ ps = ML at *
        have Ac : IY.length = k := by
         have := congrArg List.length HP.out
         rw [cO, List.length_take, BE, HLl.out] at this
         omega
        have Hkk := zq Ac
        have HLo : bH ((IY ++ [(⟨some ⟨g, 0, none⟩, cap, ML⟩ : Lp)]).map Lp.ps = (iY fs IZ ls).take (k + 1)) := by
         show _ = _
         rw [tW, HP.out, Hmv.out]; rfl
        have zF := IF.out.1
        rw [Ac] at zF
        have hk24 : k + 1 ≤ 2147483648 := by have := HNn.out; omega
        clear de Bh HO HP Hmv hall Ac hm4 hj
        go_wp2_with (at_builtin; refine TG rfl _ _ rfl V2.heap.size (aB va k vc) k _ rfl zF (some ⟨g, 0, none⟩) m cap rfl hk24 HBo.out.size ?_; intro g8 Tm w8 GD hg8 LU)
        have HB8 := zq (eP HBo.out LU zF (aG _) HBo.out.size)
        have HO8 : bH (jP V2.heap.size w8 (aB (some ⟨g8, 0, none⟩) (k + 1) Tm) (IY ++ [⟨some ⟨g, 0, none⟩, cap, ML⟩])) := by
         have := jP.grow (l := ⟨some ⟨g, 0, none⟩, cap, ML⟩) (g := g8) (cap := Tm) IF.out (by
          have := HL2.out
          show Rn _ _ _ _ (aB (some ⟨g, 0, none⟩) ML.length cap) ML.length (dH ML)
          rw [jx.out]; exact this) LU (by
          rw [Hkk.out]
          show Rn _ _ _ _ _ _ (_ ++ [aB (some ⟨g, 0, none⟩) ML.length cap])
          rw [jx.out]; exact GD)
         rwa [Hkk.out] at this
        clear zF GD LU IF HL2
        go_wp2
        go_roundw
        case rel => exact ⟨k + 1, Tm, some ⟨g8, 0, none⟩, IY ++ [(⟨some ⟨g, 0, none⟩, cap, ML⟩ : Lp)], rfl, fun h => absurd h (by omega), by go_num, by omega, HO8, HLo, HB8⟩
        case measure => simp only [aK]; omega
     ·obtain rfl : n = k := by omega
      have Ib : (iY fs IZ ls).length = n := by rw [BE]; exact HLl.out
      have LR : bH (IY.map Lp.ps = iY fs IZ ls) := by show _ = _; rw [HP.out, fM (by omega)]
      have jx := zq Ib
      have J5 := zq (HMh.cat wo va vc IY vR.out LR.out Hva.out (jP.reads HO.out))
      have jy := zq HMh.back
      have HLm := zq HMh.lim
      have HBxw := zq (dc.out.below E9.out)
      have HKw : bH (wo.heap[D]? = some (.deferred (some []))) := (E9.out.block D HDl2.out).trans br.out
      have HDw : bH (D < wo.heap.size) := by have h1 := HDl2.out; have h2 := E9.out.size; show _ < _; omega
      clear HP Ib HMh HSz2 HSd2 HRf HRl Vh TP hlt hk
      generalize iY fs IZ ls = MA at *
      obtain ⟨N, hN⟩ : ∃ N, MA.flatten.length = N := ⟨_, rfl⟩
      rw [hN] at J5 jy HLm
      clear hN
      go_wp2_with fail
      refine J5.out.mono ?_
      rintro e W3 ⟨⟨pa, pc, rfl, hrp⟩, hb3⟩
      have HB3 := zq (aU vR.out hb3)
      have Ff := zq (HBxw.out.below hb3)
      have HK3 : bH (W3.heap[D]? = some (.deferred (some []))) := (hb3.block D HDw.out).trans HKw.out
      have RA : bH (D < W3.heap.size) := by have h1 := HDw.out; have h2 := hb3.size; show _ < _; omega
      have Vm := zq (HO.out.below hb3)
      have B8 := zq hrp
      clear hb3 hrp J5 HBxw HKw HDw HO vR E9
      go_wp2_with fail
      refine (jy.out W3 w.heap.size pa pc HB3.out Ff.out.1 B8.out).mono ?_
      rintro e W4 ⟨rfl, hb4⟩
      have zG := zq (aU HB3.out hb4)
      have AC := zq (Ff.out.below hb4)
      have HK4 : bH (W4.heap[D]? = some (.deferred (some []))) := (hb4.block D RA.out).trans HK3.out
      have HD4 : bH (D < W4.heap.size) := by have h1 := RA.out; have h2 := hb4.size; show _ < _; omega
      have HO4 := zq (Vm.out.below hb4)
      have HR4 := zq (B8.out.below hb4)
      clear hb4 HB3 Ff HK3 RA Vm B8 jy
      generalize MA.flatten.any (CS fs) = bk at *
      cases bk with
      | true =>
       have HX := zq (HRX.out 2 (by rw [HU5.out]; simp) (by decide))
       have r8 := AC.out.2.2.2.1.cell 0
       have r9 := AC.out.2.2.2.2.cell 0
       have z8 := AC.out.2.2.2.1.fz 0
       have z9 := AC.out.2.2.2.2.fz 0
       have l8 := AC.out.2.2.2.1.lt
       have l9 := AC.out.2.2.2.2.lt
       simp only [aL, aI] at r8 r9
       go_wp2
       obtain ⟨V, hV, b1, b2, Ae⟩ := AC.out.err (aB none 0 0) 2
       have WW : V.heap[D]? = some (.deferred (some [])) := by rw [← hV]; exact ((cG _ _ _).trans (cG _ _ _)).same D _ HK4.out rfl
       rw [hV]
       refine ⟨by simp, .inl ⟨_, _, rfl, fH WW, ?_⟩⟩
       exact ⟨_, iR pS _ _ (w.heap.size + 1 + 1 + 1) (w.heap.size + 1 + 1 + 1 + 1) (aB none 0 0) (aD aE 2) rfl rfl ((b1.putObj _ WW rfl).cell 0) ((b2.putObj _ WW rfl).cell 0) tP tQ, HX.out _ ((Ae _ zG.out).trans (kR HD.out WW))⟩
      | false =>
      go_wp2_with fail
      refine (HLm.out W4 pa pc zG.out HR4.out).mono ?_
      rintro e W5 ⟨rfl, hb5⟩
      have yI := zq (aU zG.out hb5)
      have I0 := zq (AC.out.below hb5)
      have HK5 : bH (W5.heap[D]? = some (.deferred (some []))) := (hb5.block D HD4.out).trans HK4.out
      have HO5 := zq (HO4.out.below hb5)
      clear hb5 zG AC HK4 HD4 HO4 HR4 HLm
      generalize MA.flatten.any L9 = lm at *
      have r8 := I0.out.2.2.2.1.cell 0
      have r9 := I0.out.2.2.2.2.cell 0
      have z8 := I0.out.2.2.2.1.fz 0
      have z9 := I0.out.2.2.2.2.fz 0
      have l8 := I0.out.2.2.2.1.lt
      have l9 := I0.out.2.2.2.2.lt
      simp only [aL, aI] at r8 r9
      cases lm with
      | true =>
       have HX := zq (HRX.out 4 (by rw [HU5.out]; simp) (by decide))
       go_wp2
       obtain ⟨V, hV, b1, b2, Ae⟩ := I0.out.err (aB none 0 0) 4
       have WW : V.heap[D]? = some (.deferred (some [])) := by rw [← hV]; exact ((cG _ _ _).trans (cG _ _ _)).same D _ HK5.out rfl
       rw [hV]
       refine ⟨by simp, .inl ⟨_, _, rfl, fH WW, ?_⟩⟩
       exact ⟨_, iR pS _ _ (w.heap.size + 1 + 1 + 1) (w.heap.size + 1 + 1 + 1 + 1) (aB none 0 0) (aD aE 4) rfl rfl ((b1.putObj _ WW rfl).cell 0) ((b2.putObj _ WW rfl).cell 0) tP tQ, HX.out _ ((Ae _ yI.out).trans (kR HD.out WW))⟩
      | false =>
       have hPE : PE = 0 := by rw [HU5.out]; simp
       have HPE := zq hPE
       have HPV := zq (OB.out hPE)
       have HlV : bH (w.heap.size + 1 + 1 + 1 + 1 < V2.heap.size) := dc.out.2.2.2.2.lt
       clear hPE
       go_wp2
       obtain ⟨V, hV, b1, b2, Ae⟩ := I0.out.err (aB va n vc) 0
       have WW : V.heap[D]? = some (.deferred (some [])) := by rw [← hV]; exact ((cG _ _ _).trans (cG _ _ _)).same D _ HK5.out rfl
       have HOV : jP V2.heap.size V (aB va n vc) IY := by
        rw [← hV]
        exact (HO5.out.set (p := ⟨w.heap.size + 1 + 1 + 1, 0, none⟩) (by have := HlV.out; show w.heap.size + 1 + 1 + 1 < _; omega) _).set (p := ⟨w.heap.size + 1 + 1 + 1 + 1, 0, none⟩) HlV.out _
       rw [hV]
       refine ⟨by simp, .inl ⟨_, _, rfl, fH WW, ?_⟩⟩
       refine ⟨_, iR pS _ _ (w.heap.size + 1 + 1 + 1) (w.heap.size + 1 + 1 + 1 + 1) (aB va n vc) (aD aE 0) rfl rfl ((b1.putObj _ WW rfl).cell 0) ((b2.putObj _ WW rfl).cell 0) tP tQ, ?_⟩
       exact ⟨⟨va, vc, IY, by rw [HPV.out, jx.out, HPE.out], by rw [HPV.out]; exact LR.out, jP.reads (HOV.putObj _ WW rfl)⟩, (Ae _ yI.out).trans (kR HD.out WW)⟩
   case stop =>
    rintro D c k W hD ⟨⟨⟨hb1, hb2⟩, rfl, hv⟩, hB⟩ hK
    have HX := zq (HY3.out hv)
    have HB := zq hB
    have Hb1 := zq hb1
    have YN := zq hb2
    have HK := zq hK
    have HD := zq (bE yI.out.size hD)
    clear hb1 hb2 hB HBe yI I0 HT5 HNo0 HSeq HLo HHi db HY3 hK hD
    go_wp2
    refine ⟨by simp, .inl ⟨_, _, rfl, fH HK.out, ?_⟩⟩
    exact ⟨_, iR pS _ _ (w.heap.size + 1 + 1 + 1) (w.heap.size + 1 + 1 + 1 + 1) (aB none 0 0) (aD aE 2) rfl rfl ((Hb1.out.putObj _ HK.out rfl).cell 0) ((YN.out.putObj _ HK.out rfl).cell 0) tP tQ, HX.out _ (HB.out.trans (kR HD.out HK.out))⟩
end
end
section
open Go Go.RowKit Go.Lib
theorem chkT_96{fs:List Fr}{zs:List (List UInt8)}{ls:List Lp}(h:iL fs zs ls=0):∀i,i<ls.length→(ls.getD i default).ps.length≤96:=by
 unfold iL at h;by_cases h1:xM fs=true
 ·rw[ip h1]at h;cases h
 rw[iN h1]at h;by_cases h2:J0 zs zs.length=0
 ·rw[iN (by rw[h2];decide)]at h;by_cases h3:sU ls=true
  ·rw[ip h3]at h;cases h
  ·intro i hi;have h3:sU ls=false:=by simpa using h3
   unfold sU at h3;rw[Bool.or_eq_false_iff]at h3;have:=dC.1 h3.2 i hi;unfold P7 at this;simpa using this
 ·rw[ip h2]at h;exact absurd h h2
theorem dh{fs:List Fr}{at':List (List UInt8)}{ls:List Lp}{right:Bool}(h:tK fs at' ls right =true){i:Nat}(hi:i<ls.length):4≤(ls.getD i default).ps.length:=by
 unfold tK at h;have h1:=dC.1 (by simpa using h) i hi;unfold bd at h1;have h2:jF fs at' (ls.getD i default).ps right =true:=by simpa using h1
 unfold jF at h2;simp only[Bool.and_eq_true]at h2;simpa using h2.1.1
theorem moveF(a b:Option cT)(nf n ca cb:Nat)(fs:List Fr)(ls:List Lp)(x y:List UInt8)(w:aF)(hE:iM w)
 (hf:fs.length=nf)(hl:ls.length=n)(bf:nf≤1000)(hn:n≤1000000)(Ig:∀f∈fs,f.sp.length≤30∧f.st.length≤30)(Nx:Ws ls)(hy:y.length≤8000000)
 (rf:zR w a fs)(rl:E5 w b ls)(h0:iL fs [x,y] ls=0):MoveF a b nf n ca cb fs ls x y w where
 tracer1 W g hW q:=by
  have rz:Ek W (some ⟨g,0,none⟩) [y]:=by
   intro i hi
   have hi:i<1:=hi
   match i,hi with
   |0,_=>exact⟨_,_,rfl,q.cell 0⟩
  refine(sV a b (some ⟨g,0,none⟩) nf n 1 ca cb 1 fs ls [y] W (hE.below hW) hf hl rfl (by omega) hn (by decide) Ig (fun z hz=>by simp only[sZ,Cd,or_false]at hz;subst hz;exact hy) (fun l h=>(Nx l h).1) (rf.below hW) (rl.below hW) rz).mono ?_
  rintro e w'⟨⟨a1,n1,c1,a2,n2,c2,rfl,hk⟩,hb⟩
  have h1:=da h0
  obtain⟨e1,e2,e3,h2⟩:=hk h1
  obtain⟨e4,h3⟩:=h2 (by simp)
  rw[h1,e1,e2,e3,e4]
  exact⟨⟨_,_,rfl,h3⟩,hb⟩
 rf W hW:=rf.below hW
 rl W hW:=rl.below hW
 flen:=hf
 len:=hl
 alen:=by rw[Dv];exact hf
 nn:=by have:=(vh h0).2.2.2;omega
 size h i hi:=⟨dh h (by rw[hl];exact hi),chkT_96 h0 i (by rw[hl];exact hi)⟩
 side h i hi j hj:=by
  obtain⟨s,h1,h2⟩:=Ow h (by rw[hl];exact hi) hj
  exact⟨s,h1,by omega⟩
theorem YO(a b:Option cT)(nf n ca cb:Nat)(fs:List Fr)(ls:List Lp)(x y:List UInt8)(w:aF)(hE:iM w)
 (hf:fs.length=nf)(hl:ls.length=n)(bf:nf≤1000)(Ql:nf≤ca)(hn:n≤1000000)(Ig:∀f∈fs,f.sp.length≤30∧f.st.length≤30)(Nx:Ws ls)(hx:x.length≤8000000)(hy:y.length≤8000000)
 (rf:zR w a fs)(rl:E5 w b ls):
 aW aC 26 #[aB a nf ca,aB b n cb,aA (bs x),aA (bs y)] w (TH w (rI fs ls x y) (lD fs ls x y)):=by
 have hC:=moveC a b nf n ca cb fs ls x y w hE hf hl bf hn Ig Nx hx hy rf rl;by_cases h0:iL fs [x,y] ls=0
 ·obtain⟨h1,h2,h3,h4⟩:=vh h0;have hOk:∀f∈fs,f.Ok:=fun f hm=>⟨h1 f hm,(Ig f hm).1,(Ig f hm).2⟩;have h24:=chkT_f h0;have hF:=moveF a b nf n ca cb fs ls x y w hE hf hl bf hn Ig Nx hy rf rl h0;refine WU a b nf n ca cb fs ls x y w hC (moveE a nf ca fs x y w hE hf (by omega) Ql hOk h2 h3 rf) hF (fun hA=>?_) h0 h2 h3;have hsd:∀i,i<n→∀j,j<(ls.getD i default).ps.length→∃s:Nat,((ls.getD i default).ps.getD j default).side=s∧s<nf:=hF.side hA;have hmo:=fun i hi=>ua (fs:=fs) (nf:=nf) Nx (tq hOk h3) (fun i hi=>hsd i (by omega)) (i:=i) (by rw[hl];exact hi);exact moveH a nf n ca fs _ w hE hf (by rw[BE];exact hl) hF.nn (by omega) (fun f hf=>(hOk f hf).dir) (fun i hi=>by
   have:=hF.size hA i hi;rw[(hmo i hi).1];omega) (fun i hi j hj=>(hmo i hi).2 j (by rw[←(hmo i hi).1];exact hj)) rf
 ·exact TL a b nf n ca cb fs ls x y w hC h0
end
section
open Go Go.RowKit Go.Shelf Go.Lib
theorem sq_rdf{W:aF}{F:Nat}(h:bT W F #[aN false,aD aE 0,aD aE 1,aA ⟨#[49]⟩,aA ⟨#[48]⟩,aN true,aD aE 10,aD aE (-1),aA ⟨#[49]⟩,aA ⟨#[48]⟩,aN false,aD aE 10,aD aE (-1),aA ⟨#[49]⟩,aA ⟨#[48]⟩,aN true,aD aE 0,aD aE 1,aA ⟨#[49]⟩,aA ⟨#[48]⟩] 44):zR W (some ⟨F,0,none⟩) wU:=by
 intro i hi;have hi:i<4:=hi;match i,hi with
 |0,_=>exact⟨_,_,rfl,fun j hj=>match j,hj with |0,_=>h.cell 0|1,_=>h.cell 1|2,_=>h.cell 2|3,_=>h.cell 3|4,_=>h.cell 4⟩
 |1,_=>exact⟨_,_,rfl,fun j hj=>match j,hj with |0,_=>h.cell 5|1,_=>h.cell 6|2,_=>h.cell 7|3,_=>h.cell 8|4,_=>h.cell 9⟩
 |2,_=>exact⟨_,_,rfl,fun j hj=>match j,hj with |0,_=>h.cell 10|1,_=>h.cell 11|2,_=>h.cell 12|3,_=>h.cell 13|4,_=>h.cell 14⟩
 |3,_=>exact⟨_,_,rfl,fun j hj=>match j,hj with |0,_=>h.cell 15|1,_=>h.cell 16|2,_=>h.cell 17|3,_=>h.cell 18|4,_=>h.cell 19⟩
theorem sq_rdp{W:aF}{P:Nat}(h:bT W P #[aD aE 0,aA ⟨#[48]⟩,aA ⟨#[49,48]⟩,aD aE 1,aA ⟨#[48]⟩,aA ⟨#[49,48]⟩,aD aE 2,aA ⟨#[49,48]⟩,aA ⟨#[48]⟩,aD aE 3,aA ⟨#[49,48]⟩,aA ⟨#[48]⟩] 47):CL W (some ⟨P,0,none⟩) (AB [48] [49,48]):=by
 intro i hi;have hi:i<4:=hi;match i,hi with
 |0,_=>exact⟨_,_,rfl,fun j hj=>match j,hj with |0,_=>h.cell 0|1,_=>h.cell 1|2,_=>h.cell 2⟩
 |1,_=>exact⟨_,_,rfl,fun j hj=>match j,hj with |0,_=>h.cell 3|1,_=>h.cell 4|2,_=>h.cell 5⟩
 |2,_=>exact⟨_,_,rfl,fun j hj=>match j,hj with |0,_=>h.cell 6|1,_=>h.cell 7|2,_=>h.cell 8⟩
 |3,_=>exact⟨_,_,rfl,fun j hj=>match j,hj with |0,_=>h.cell 9|1,_=>h.cell 10|2,_=>h.cell 11⟩
theorem WX(w:aF):aW aC 25 #[] w fun e w'=>(∃a b la,e=aQ (cC #[aB a 4 4,aB b 1 1])∧zR w' a wU∧E5 w' b [⟨la,4,AB [48] [49,48]⟩])∧Below w.heap.size w w':=by
 obtain⟨W0,eQ⟩:∃V,((w.alloc (aJ #[aN false,aD aE 0,aD aE 1,aA ⟨#[49]⟩,aA ⟨#[48]⟩,aN true,aD aE 10,aD aE (-1),aA ⟨#[49]⟩,aA ⟨#[48]⟩,aN false,aD aE 10,aD aE (-1),aA ⟨#[49]⟩,aA ⟨#[48]⟩,aN true,aD aE 0,aD aE 1,aA ⟨#[49]⟩,aA ⟨#[48]⟩] 44)).alloc (aJ #[aD aE 0,aA ⟨#[48]⟩,aA ⟨#[49,48]⟩,aD aE 1,aA ⟨#[48]⟩,aA ⟨#[49,48]⟩,aD aE 2,aA ⟨#[49,48]⟩,aA ⟨#[48]⟩,aD aE 3,aA ⟨#[49,48]⟩,aA ⟨#[48]⟩] 47)).alloc (aJ #[aB (some ⟨w.heap.size+1,0,none⟩) 4 4] 45)=V:=⟨_,rfl⟩;have R:bH ((∃a b la,(aQ (cC #[aB (some ⟨w.heap.size,0,none⟩) 4 4,aB (some ⟨w.heap.size+1+1,0,none⟩) 1 1]))=aQ (cC #[aB a 4 4,aB b 1 1])∧zR W0 a wU∧E5 W0 b [⟨la,4,AB [48] [49,48]⟩])∧Below w.heap.size w W0):=by
  rw[←eQ];refine⟨⟨_,_,some ⟨w.heap.size+1,0,none⟩,rfl,sq_rdf (((bT.new w _ _).alloc _).alloc _),?_⟩,(((aH _ w).alloc (aG _) _).alloc (by simp) _).alloc (by simp <;>omega) _⟩;have q1:=(bT.new (w.alloc (aJ #[aN false,aD aE 0,aD aE 1,aA ⟨#[49]⟩,aA ⟨#[48]⟩,aN true,aD aE 10,aD aE (-1),aA ⟨#[49]⟩,aA ⟨#[48]⟩,aN false,aD aE 10,aD aE (-1),aA ⟨#[49]⟩,aA ⟨#[48]⟩,aN true,aD aE 0,aD aE 1,aA ⟨#[49]⟩,aA ⟨#[48]⟩] 44)) #[aD aE 0,aA ⟨#[48]⟩,aA ⟨#[49,48]⟩,aD aE 1,aA ⟨#[48]⟩,aA ⟨#[49,48]⟩,aD aE 2,aA ⟨#[49,48]⟩,aA ⟨#[48]⟩,aD aE 3,aA ⟨#[49,48]⟩,aA ⟨#[48]⟩] 47).alloc (aJ #[aB (some ⟨w.heap.size+1,0,none⟩) 4 4] 45);have q2:=bT.new ((w.alloc (aJ #[aN false,aD aE 0,aD aE 1,aA ⟨#[49]⟩,aA ⟨#[48]⟩,aN true,aD aE 10,aD aE (-1),aA ⟨#[49]⟩,aA ⟨#[48]⟩,aN false,aD aE 10,aD aE (-1),aA ⟨#[49]⟩,aA ⟨#[48]⟩,aN true,aD aE 0,aD aE 1,aA ⟨#[49]⟩,aA ⟨#[48]⟩] 44)).alloc (aJ #[aD aE 0,aA ⟨#[48]⟩,aA ⟨#[49,48]⟩,aD aE 1,aA ⟨#[48]⟩,aA ⟨#[49,48]⟩,aD aE 2,aA ⟨#[49,48]⟩,aA ⟨#[48]⟩,aD aE 3,aA ⟨#[49,48]⟩,aA ⟨#[48]⟩] 47)) #[aB (some ⟨w.heap.size+1,0,none⟩) 4 4] 45;rw[bB]at q1;rw[bB,bB]at q2;intro i hi;have hi:i<1:=hi;match i,hi with
  |0,_=>exact⟨_,_,rfl,q2.cell 0,sq_rdp q1⟩
 go_enter func25,ntmps25;go_wp2;try rw[eQ]
 go_ret2;exact R.out
def sqQ:List Po:=[⟨[51],[51]⟩,⟨[55],[51]⟩,⟨[55],[55]⟩,⟨[51],[55]⟩]
theorem sq_rdo{W:aF}{P:Nat}(h:bT W P #[aA ⟨#[51]⟩,aA ⟨#[51]⟩,aA ⟨#[55]⟩,aA ⟨#[51]⟩,aA ⟨#[55]⟩,aA ⟨#[55]⟩,aA ⟨#[51]⟩,aA ⟨#[55]⟩] 66):Yx W (some ⟨P,0,none⟩) sqQ:=by
 intro i hi;have hi:i<4:=hi;match i,hi with
 |0,_=>exact⟨_,_,rfl,h.cell 0,h.cell 1⟩
 |1,_=>exact⟨_,_,rfl,h.cell 2,h.cell 3⟩
 |2,_=>exact⟨_,_,rfl,h.cell 4,h.cell 5⟩
 |3,_=>exact⟨_,_,rfl,h.cell 6,h.cell 7⟩
theorem Qn{α β:Type}{f:α→β}{l:List α}{y:β}(h:l.map f=[y]):∃x,l=[x]∧f x=y:=by
 match l,h with
 |[x],h=>exact⟨x,rfl,by simpa using h⟩
theorem vo(a b la:Option cT)(w:aF)(hE:iM w)(rf:zR w a wU)(rl:E5 w b [⟨la,4,AB [48] [49,48]⟩]):
 aW aC 26 #[aB a 4 4,aB b 1 1,aA ⟨#[48]⟩,aA ⟨#[51]⟩] w fun e w'=>(∃b' c la' lc,e=aQ (cC #[aB b' 1 c,aD aE 0])∧E5 w' b' [⟨la',lc,AB [51] [55]⟩])∧Below w.heap.size w w':=by
 have:=YO a b 4 1 4 1 wU [⟨la,4,AB [48] [49,48]⟩] [48] [51] w hE rfl rfl (by decide) (by decide) (by decide) YI (GH la 4 [48] [49,48] (by decide) (by decide)) (by decide) (by decide) rf rl;rw[YG,sq_val3]at this;refine yP this ?_;rintro e w'⟨⟨b',c,fD,rfl,hm,hr⟩,hb⟩;obtain⟨⟨la',lc,ps⟩,rfl,hp⟩:=Qn hm;simp only[]at hp;subst hp;exact⟨⟨b',c,la',lc,rfl,hr⟩,hb⟩
theorem vp(a b la:Option cT)(w:aF)(hE:iM w)(rf:zR w a wU)(rl:E5 w b [⟨la,4,AB [48] [49,48]⟩]):
 aW aC 26 #[aB a 4 4,aB b 1 1,aA ⟨#[48]⟩,aA ⟨#[53]⟩] w fun e w'=>(∃b' c la' lc,e=aQ (cC #[aB b' 1 c,aD aE 0])∧E5 w' b' [⟨la',lc,AB [53] [53]⟩])∧Below w.heap.size w w':=by
 have:=YO a b 4 1 4 1 wU [⟨la,4,AB [48] [49,48]⟩] [48] [53] w hE rfl rfl (by decide) (by decide) (by decide) YI (GH la 4 [48] [49,48] (by decide) (by decide)) (by decide) (by decide) rf rl;rw[YH,sq_val5]at this;refine yP this ?_;rintro e w'⟨⟨b',c,fD,rfl,hm,hr⟩,hb⟩;obtain⟨⟨la',lc,ps⟩,rfl,hp⟩:=Qn hm;simp only[]at hp;subst hp;exact⟨⟨b',c,la',lc,rfl,hr⟩,hb⟩
theorem di(a b la:Option cT)(c lc:Nat)(w:aF)(hE:iM w)(rf:zR w a wU)(rl:E5 w b [⟨la,lc,AB [51] [55]⟩]):
 aW aC 27 #[aB a 4 4,aB b 1 c,aA ⟨#[51]⟩] w fun e w'=>(∃pb po c' qa qc,e=aQ (cC #[aB (some ⟨pb,po,none⟩) 1 c',aD aE 0])∧w'.cell? ⟨pb,po,none⟩=some (aB qa 4 qc)∧Yx w' qa sqQ)∧Below w.heap.size w w':=by
 have:=be a b 4 1 4 c wU [⟨la,lc,AB [51] [55]⟩] [51] w hE rfl rfl (by decide) (by decide) YI (GH la lc [51] [55] (by decide) (by decide)) (by decide) rf rl;rw[sq_perr,sq_pval]at this;refine yP this ?_;rintro e w'⟨⟨p,c',fD,rfl,hm,hr⟩,hb⟩;obtain⟨⟨qa,qc,qs⟩,rfl,hp⟩:=Qn hm;simp only[]at hp;subst hp;obtain⟨pb,po,rfl,h1,h2⟩:=hr 0 (by simp);exact⟨⟨pb,po,c',qa,qc,rfl,h1,h2⟩,hb⟩
theorem dj(w:aF)(hE:iM w):aW aC 8 #[] w (Rt (aN true) w):=by
 have HS:=zq (WX w);have HE:bH (∀W,Below w.heap.size w W→iM W):=fun W h=>hE.below h;clear hE;go_enter func8,ntmps8;go_wp2_with fail
 refine HS.out.mono ?_;rintro e W1⟨⟨a,b,la,rfl,hf1,hl1⟩,hb1⟩;have HF1:=zq hf1;have HL1:=zq hl1;have eW:=zq hb1;clear HS hf1 hl1 hb1;go_wp2_with fail
 refine(vo a b la W1 (HE.out _ eW.out) HF1.out HL1.out).mono ?_;rintro e W2⟨⟨b3,c3,la3,lc3,rfl,hl3⟩,hb2⟩;have Oy:=zq (HF1.out.below hb2);have HL2:=zq (HL1.out.below hb2);have HL3:=zq hl3;have fR:=zq (aU eW.out hb2);clear hl3 hb2 HF1 HL1 eW;go_wp2_with fail
 refine(di a b3 la3 c3 lc3 W2 (HE.out _ fR.out) Oy.out HL3.out).mono ?_;rintro e W3⟨⟨pb,po,c',qa,qc,rfl,hp,ho⟩,hb3⟩;have Tt:=zq (Oy.out.below hb3);have HL3':=zq (HL2.out.below hb3);have HP3:=zq hp;have Vm:=zq ho;have HB3:=zq (aU fR.out hb3);clear hp ho hb3 Oy HL2 HL3 fR;go_wp2_with fail
 refine(vp a b la W3 (HE.out _ HB3.out) Tt.out HL3'.out).mono ?_;rintro e W4⟨⟨b5,c5,la5,lc5,rfl,hl5⟩,hb4⟩;have WD:=zq (Tt.out.below hb4);have HL5:=zq hl5;have HP4:=zq (cF hb4 HP3.out);have HO4:=zq (Vm.out.below hb4);have zG:=zq (aU HB3.out hb4);clear hl5 hb4 Tt HL3' HP3 Vm HB3;go_wp2_with fail
 refine(uj a b5 4 c5 la5 lc5 W4 (HE.out _ zG.out) WD.out HL5.out).mono ?_;rintro e W5⟨rfl,hb5⟩;have hp5:=cF hb5 HP4.out;have HP5:=zq hp5;have HO5:=zq (HO4.out.below hb5);have yI:=zq (aU zG.out hb5);clear hb5 WD HL5 HP4 HO4 zG;obtain⟨W6,hW6⟩:∃V,W5.alloc (aJ #[aA ⟨#[51]⟩,aA ⟨#[51]⟩,aA ⟨#[55]⟩,aA ⟨#[51]⟩,aA ⟨#[55]⟩,aA ⟨#[55]⟩,aA ⟨#[51]⟩,aA ⟨#[55]⟩] 66)=V:=⟨_,rfl⟩;have hb6:Below W5.heap.size W5 W6:=by rw[←hW6];exact(aH _ _).alloc (aG _) _
 have HQ6:bH (Yx W6 (some ⟨W5.heap.size,0,none⟩) sqQ):=by rw[←hW6];exact sq_rdo (bT.new _ _ _)
 have HO6:=zq (HO5.out.below hb6);have FC:=zq (aU yI.out hb6);clear hb6 HO5;go_wp2_with fail
 try rw[hW6]
 refine(ci qa (some ⟨W5.heap.size,0,none⟩) 4 qc 4 sqQ W6 rfl (by decide) HO6.out HQ6.out).mono ?_;rintro e W7⟨rfl,hb7⟩;have Ku:=zq (aU FC.out hb7);clear hb7;go_wp2;go_ret;exact⟨rfl,Ku.out⟩
end
end Go.Proofs.YtckgmoobicmbnaaGreatDoor
