import Derived.OwnWalkIn
import Derived.Deep.RegionHeld3
import Derived.Test.YtncclggcfgnhpaaGreatDoorProg
import Derived.Shelf.Strconv.Itoa3
import Derived.Shelf.Strconv.AtoiAll
import Derived.Shelf.Small.Wraps
import Derived.Shelf.Strings.SlTrimAscii
import Derived.Shelf.Strings.Cut
import Derived.Lib.AppendIntMem
import Derived.WalkSpells
import Derived.WalkLawsBesides
import Derived.Deep.DeepCutAuto
import Derived.RangeFuncNested
import Derived.RangeFuncBound
import Derived.Shelf.RegionOpen
import Derived.LoopNIn
import Derived.LoopIn
namespace Go.Proofs.YtncclggcfgnhpaaGreatDoor
set_option maxRecDepth 100000
set_option maxHeartbeats 8000000
set_option linter.all false
open Go.Proofs.Tryz
open _root_.Array renaming replicate->gA
open _root_.Bool renaming true->ι,false->ν,and_eq_true->aI,false_eq_true->aK,not_eq_true'->bX,or_eq_true->jZ,eq_iff_iff->oC
open _root_.ByteArray renaming size->nw
open _root_.Classical renaming byContradiction->aG
open _root_.Go renaming World->η,Value->χ,undef->ψ,Calls->aE,Addr->bW,Program->cQ,TypeId->cS,bodyPost_ret->cU,heap_setCell_other->dG,below_drewN->dO,Oper->eZ,results->gP,KeepsFrom->iB,Act->iS,Operand->mC,callFunc->nU,Exit->sG,wpAnyIn->uM,FuncId->vP,execOp->uH,OwnFrom->zM,underlying->CJ,wpList->Dk,Code->Dl,Ending->Fg,cell_of_row->Ij,Fence->Jy,run_string_add_lists->JA,run_endLoop->Qd,wpAnyH->YA,wpIn_mono->zj,zeroValue->zk
open Go.ByteArray renaming toList_eq->dM
open Go.Code renaming region->pS,rangeFunc->Bi
open Go.Ending renaming returned->σ
open Go.Fence renaming wide->eD
open Go.Instr renaming lookup->pT,checkKey->Am,mapUpdate->DW,endRound->F8,sameBits->Pg,mapEntry->Ph,findNow->St,keyThatStays->nz
open Go.IntKind renaming i64->Ξ
open Go.IntWalk renaming i64_in->aM
open Go.Lib renaming decDigits->bL,itoa->bR,hasPrefix->yI,trimPrefix->AW,trimS->Gb,atoi->Jp,extract_to_end->Jz,compareInt->Su,cut->XX
open Go.Obj renaming cells->π
open Go.Op renaming equalIn->Fi
open Go.Oper renaming semAt_plain->pF,wpIn->tB,wp->OQ
open Go.Program renaming fieldsOf->Jn
open Go.Proofs renaming enters_of->iC
open Go.Proofs.Tryz renaming prog->γ,underlying3->dB,underlying4->eW,zeroValue4->gJ,zeroValue3->gV,sizeOf3->gW,isAgg3->jF,underlying9->jG,sizeOf4->jR,isAgg4->lK,zeroValue9->mB,underlying5->pG,sizeOf9->oN,underlying0->pK,isAgg9->qH,zeroValue0->rK,results131->tV,sizeOf0->xT,isAgg0->Aj,underlying176->Ay,sizeOf196->Az,zeroValue176->Bp,isAgg196->Cx,zeroValue5->DZ,sizeOf176->Ga,isAgg176->Ik,underlying246->Jo,sizeOf5->KU,zeroValue246->KV,underlying20->Mp,isAgg5->MY,zeroValue20->OR,results132->OT,sizeOf246->Qf,isAgg246->Ue,ntmps152->Ug,ntmps231->Uh,sizeOf20->XT,func159->XU,func152->XZ,func231->X7,func260->X8,ntmps85->X9,func174->dh,isAgg20->di,func85->dl,underlying298->zo,underlying248->zp,underlying296->zr,underlying299->zu,underlying317->zw,underlying318->zx,underlying356->zy
open Go.Region renaming Mode->gD
open Go.Result renaming andThen->vG,ok->zl
open Go.RowKit renaming intOf->ξ,Hid->aQ
open Go.RowKit.Below renaming refl->μ,setCell->nV,alloc->rO,heap_alloc->xR
open Go.Sem renaming run->fD,run_bind->mO
open Go.Shelf renaming Ren->iG
open Go.Value renaming string->Δ,slice->Θ,int->Υ,bool->ω,pointer->aB,agg->bQ,tuple->bT
open Go.World renaming block_lt_of_cell?->aD,size_alloc->aL,putObj_heap_other->cZ,alloc_heap_new->kZ,putObj_heap_same->pJ
open _root_.Inhabited renaming default->Γ
open _root_.Int renaming natAbs_natCast->dX,toNat_natCast->gG,tmod_eq_emod_of_nonneg->kO,natCast_mul->uJ,le_refl->AV,natAbs_mul->Cw,natAbs_neg->GK,natCast_ediv->M3,mul_ne_zero->Pi,tdiv_eq_ediv_of_dvd->XY
open _root_.List renaming getD_eq_getElem?_getD->Ω,length_map->υ,length_cons->aC,length_append->aJ,getElem?_eq_getElem->aS,length_nil->bB,getElem?_toArray->bC,take_succ_eq_append_getElem->bM,cons_append->bV,mem_cons_self->bO,mem_cons_of_mem->cC,push_toArray->cE,range->cI,getElem?_cons_succ->cO,getD_cons_succ->jS,append_nil->kQ,foldl_cons->oB,all_cons->xW,head?_eq_getElem?->DK,getElem?_modify->F9,modify_toArray->Ic,dropWhile_cons->Ie,foldl_append->Mm,ext_getElem?->Mo,isPrefixOf->OS,isEmpty_eq_false_iff->Ss,getElem_append_left->Uf
open _root_.List.Pairwise renaming imp_of_mem->zm
open _root_.Nat renaming le_refl->θ,le_trans->aA,mod_eq_of_lt->aT,zero_le->aP,mod_lt->aV,zero_add->bD,lt_of_lt_of_le->cN,le_of_lt->fM,gcd->iF,mod_self->mY,lt_of_le_of_lt->kE,pow_le_pow_right->sF,le_succ_of_le->wA,gcd_comm->An,sub_self->CI,pow_succ->DV,strongRecOn->Fh,sub_zero->LW,gcd_dvd_left->MZ,gcd_pos_of_pos_right->UJ
open _root_.Option renaming none->δ,some->ζ,getD_some->bK,map_some->yF
open _root_.Option.some renaming inj->dZ,injEq->vF
open _root_.Rat renaming num_intCast->vK,divInt->D0,den_intCast->Fj,divInt_eq_div->LZ
open _root_.UInt8 renaming ofNat->Bd
variable{p c:Prop}{k u cH e size cap B i id gf N j G fuel:Nat}{l r s t:List UInt8}{a:iS}{row:Option Nat}{w W w' W' w0 A:η}{g:mC}{cs args lb:Array χ}{xs:List χ}{P:cQ}{cF:Array eZ}{rest:List eZ}{f:vP}{α:Type}{T ty:cS}{fn:Func}{md:gD}{ps:Array Tmp}{assign body:Dl}{X Y D:Int}{z:Rat}{jV:Array Bool}
theorem _root_.Go.RowKit.Hid.o(h:Go.RowKit.Hid p):p:=h
theorem _root_.Go.Shut.o(h:Go.Shut p):p:=h
section
open Go Go.RowKit
theorem oM(h:p:=by omega):p:=h
theorem sP(h:p:=by simp):p:=h
theorem dD(h:p:=by decide):p:=h
theorem zq(h:p):aQ p:=h
abbrev Rt(v:χ)(w:η)(e:Fg)(w':η):Prop:=e=σ v/\Below w.heap.size w w'
theorem ip.{u}{h:Decidable c}(hc:c){α:Sort u}{t e:α}:@ite α c h t e=t:=if_pos hc
theorem iN.{u}{h:Decidable c}(hc:¬c){α:Sort u}{t e:α}:@ite α c h t e=e:=if_neg hc
end
section
open Go Go.Lib
def Au(c:UInt8):Bool:=48<=c.toNat&&c.toNat<=57
def num(l:List UInt8):Nat:=l.foldl (fun a c=>a*10+(c.toNat-48)) 0
def mag(l:List UInt8):List UInt8:=if l.head? =ζ 45 then l.tail else l
def pd(l:List UInt8):Bool:=!l.isEmpty&&l.all Au&&(l.head? !=ζ 48||l.length==1)
def okI(l:List UInt8):Bool:=pd (mag l)&&(l.head? !=ζ 45||mag l !=[48])
def SC(l:List UInt8):Int:=if l.head? =ζ 45 then -(num (mag l):Int)else(num (mag l):Int)
theorem zO{x:Nat}(m)(h:x<10^k)(hk:k<=m):x<10^m:=cN h (sF dD hk)
theorem M5(l c):num (l++[c])=num l*10+(c.toNat-48):=by
 simp[num,Mm]
theorem ph(l a):l.foldl (fun a c=>a*10+(c.toNat-48)) a=a*10^l.length+num l:=by
 induction l generalizing a with
 |nil=>simp[num]
 |cons c l ih=>
  have h:=ih (0*10+(c.toNat-48));have h':num (c::l)=(0*10+(c.toNat-48))*10^l.length+num l:=h;rw[oB,ih,h',aC,DV,Nat.add_mul,Nat.mul_assoc,Nat.mul_comm 10 (10^_),Nat.zero_mul,bD,Nat.add_assoc]
theorem YL(l r):num (l++r)=num l*10^r.length+num r:=by
 have h:num (l++r)=List.foldl (fun a c=>a*10+(c.toNat-48)) (num l) r:=by rw[num,Mm];rfl
 rw[h,ph]
theorem aa0(c l):num (c::l)=(c.toNat-48)*10^l.length+num l:=by
 have:=YL [c] l;simpa[num]using this
theorem aa1(l)(h:l.all Au=ι):num l<10^l.length:=by
 induction l with
 |nil=>simp[num]
 |cons c l ih=>
  rw[xW,aI]at h;have h1:c.toNat-48<=9:=by have:=h.1;simp[Au]at this;omega
  have h2:=ih h.2;rw[aa0,aC,DV];have:(c.toNat-48)*10^l.length<=9*10^l.length:=Nat.mul_le_mul_right _ h1;omega
theorem zQ(d)(h:d<10):Au (Bd (48+d))=ι/\(Bd (48+d)).toNat=48+d:=by
 have:(Bd (48+d)).toNat=48+d:=by simp[UInt8.toNat_ofNat'];omega
 exact⟨by unfold Au;rw[this];simp;omega,this⟩
theorem lD(h:u<10):bL u=[Bd (48+u)]:=by rw[bL,dif_pos h]
theorem sM(h:¬u<10):bL u=bL (u/10)++[Bd (48+u%10)]:=by rw[bL,dif_neg h]
theorem tC(h:l≠[]):(l++r).head? =l.head?:=by
 cases l with
 |nil=>exact absurd rfl h
 |cons c l=>rfl
theorem iR(u):bL u≠[]:=by
 by_cases h:u<10
 .rw[lD h];simp
 .rw[sM h];simp
theorem lZ(u):(bL u).all Au=ι:=by
 induction u using Fh with
 |_ u ih=>
  by_cases h:u<10
  .rw[lD h,xW,(zQ u h).1];rfl
  .rw[sM h,List.all_append,ih (u/10) oM,xW,(zQ (u%10) oM).1];rfl
theorem nJ(u):num (bL u)=u:=by
 induction u using Fh with
 |_ u ih=>
  by_cases h:u<10
  .rw[lD h];simp only[num,oB,List.foldl_nil,(zQ u h).2];omega
  .rw[sM h,M5,ih (u/10) oM,(zQ (u%10) oM).2];omega
theorem zR(u)(h:u≠0):(bL u).head?≠ζ 48:=by
 induction u using Fh with
 |_ u ih=>
  by_cases h1:u<10
  .rw[lD h1];simp only[List.head?_cons,ne_eq,vF];intro e;have:=congrArg UInt8.toNat e;rw[(zQ u h1).2]at this;simp at this;omega
  .rw[sM h1,tC (iR _)];exact ih (u/10) oM oM
theorem oE:bL 0=[48]:=by rw[lD dD];rfl
theorem Gh(u):pd (bL u)=ι:=by
 have h1:=iR u;have h2:=lZ u;by_cases h:u=0
 .subst h;rw[oE];decide
 .have h3:=zR u h;simp[pd,h1,h2,h3]
theorem wU(l)(h:pd l=ι):bL (num l)=l:=by
 obtain⟨n,hn⟩:∃n,l.length=n:=⟨_,rfl⟩;induction n using Fh generalizing l with
 |_ n ih=>
  simp only[pd,aI,bX,Ss]at h;obtain⟨⟨h1,h2⟩,h3⟩:=h;rcases List.eq_nil_or_concat l with e|⟨r,c,e⟩
  .exact absurd e h1
  .rw[List.concat_eq_append]at e;subst e;rw[List.all_append,aI]at h2;have hc:Au c=ι:=by simpa using h2.2
   have hc':48<=c.toNat/\c.toNat<=57:=by simpa[Au]using hc
   have ec:Bd (48+(c.toNat-48))=c:=by rw[show 48+(c.toNat-48)=c.toNat by omega];simp
   rw[M5];by_cases hr:r=[]
   .subst hr;rw[show num []*10=0 from rfl,bD,lD oM,ec];rfl
   .have hh:r.head?≠ζ 48:=by
     simp only[jZ,bne_iff_ne,ne_eq,beq_iff_eq,aJ,aC,bB]at h3;rw[tC hr]at h3;rcases h3 with h3|h3
     .exact h3
     .have:=List.length_pos_iff.2 hr;omega
    have yX:pd r=ι:=by simp[pd,hr,h2.1,hh]
    have Pn:=ih r.length (by simp at hn;omega) r yX rfl;have hpos:num r≠0:=by
     intro e0;rw[e0,oE]at Pn;rw[<-Pn]at hh;simp at hh
    rw[sM oM,show(num r*10+(c.toNat-48))/10=num r by omega,show(num r*10+(c.toNat-48))%10=c.toNat-48 by omega,Pn,ec]
theorem zS{n:Int}(h:n<0):bR n=45::bL n.natAbs:=by rw[bR,ip h]
theorem mZ{n:Int}(h:0<=n):bR n=bL n.natAbs:=by
 rw[bR,iN oM];congr 1;omega
theorem D7(u):∃c r,bL u=c::r/\Au c=ι:=by
 cases h:bL u with
 |nil=>exact absurd h (iR u)
 |cons c r=>have:=lZ u;rw[h,xW,aI]at this;exact⟨c,r,rfl,this.1⟩
theorem AB(u):(bL u).head?≠ζ 45:=by
 obtain⟨c,r,h,hc⟩:=D7 u;rw[h];simp only[List.head?_cons,ne_eq,vF];rintro rfl;exact absurd hc dD
theorem In(n):mag (bR n)=bL n.natAbs:=by
 by_cases h:n<0
 .rw[zS h];simp[mag]
 .rw[mZ oM,mag,iN (AB _)]
theorem yY(n):(bR n).head? =ζ 45↔n<0:=by
 by_cases h:n<0
 .rw[zS h];simp[h]
 .rw[mZ oM];simp[AB,h]
theorem D8(n):okI (bR n)=ι:=by
 simp only[okI,In,Gh,Bool.true_and,jZ,bne_iff_ne,ne_eq,yY];by_cases h:n<0
 .right;intro e;have:=nJ n.natAbs;rw[e]at this;have h0:num [48]=0:=dD;omega
 .left;exact h
theorem Bt(n):SC (bR n)=n:=by
 rw[SC,In,nJ];by_cases h:n<0
 .rw[ip ((yY n).2 h)];omega
 .rw[iN (fun e=>h ((yY n).1 e))];omega
theorem pi(l)(h:okI l=ι):bR (SC l)=l:=by
 simp only[okI,aI,jZ,bne_iff_ne,ne_eq]at h;obtain⟨h1,h2⟩:=h;have hd:=wU (mag l) h1;by_cases hm:l.head? =ζ 45
 .have hl:l=45::mag l:=by
   cases l with
   |nil=>simp at hm
   |cons c r=>simp at hm;subst hm;simp[mag]
  have hne:mag l≠[48]:=by simpa[hm]using h2
  have hpos:num (mag l)≠0:=fun e=>hne (by rw[<-hd,e,oE]);rw[SC,ip hm,zS oM];rw[show(-(num (mag l):Int)).natAbs=num (mag l) by omega,hd];exact hl.symm
 .rw[SC,iN hm,mZ oM,dX,hd,mag,iN hm]
theorem oA(u k)(hk:0<k):(bL u).length<=k↔u<10^k:=by
 constructor
 .intro h;have h1:=aa1 _ (lZ u);rw[nJ]at h1;exact cN h1 (sF dD h)
 .intro h;rw[decDigits_length];induction k generalizing u with
  |zero=>omega
  |succ k ih=>
   by_cases h1:u<10
   .rw[nDigits_small h1];omega
   .rw[nDigits_big h1];have Yj:0<k:=by
     rcases Nat.eq_zero_or_pos k with e|e
     .subst e;simp at h;omega
     .exact e
    have:=ih (u/10) Yj (by rw[DV]at h;omega);omega
theorem aa2{a b:Int}(h:bR a=bR b):a=b:=by rw[<-Bt a,<-Bt b,h]
def frm(l:List UInt8):Nat:=if l.head? =ζ 45 then 1 else 0
theorem aa3(l):mag l=l.drop (frm l):=by
 unfold mag frm;split
 .cases l<;>rfl
 .rfl
theorem YM(l):(mag l).length=l.length-frm l:=by rw[aa3,List.length_drop]
theorem YN(h:okI l=ι):frm l<l.length:=by
 simp only[okI,pd,aI,bX,Ss]at h;have:=List.length_pos_iff.2 h.1.1.1;rw[YM]at this;omega
theorem YO(h:okI l=ι):(mag l).all Au=ι:=by
 simp only[okI,pd,aI]at h;exact h.1.1.2
end
section
open Go
end
section
open Go Go.RowKit
abbrev Bw(w W:η):Prop:=Below w.heap.size w W
theorem ax2{k:IntKind}{a b:Int}(h:a=b):σ (Υ k a)=σ (Υ k b):=by rw[h]
def bs(l:List UInt8):ByteArray:=⟨l.toArray⟩
theorem gL(l):(bs l).data.toList=l:=rfl
theorem lN(l):(bs l).size=l.length:=by simp[bs,nw]
theorem ba9(s):bs s.data.toList=s:=by cases s;simp[bs]
theorem aa4{s:ByteArray}(h:s.data.toList=l):s=bs l:=by rw[<-h,ba9]
abbrev iv(n:Nat):χ:=Υ Ξ (n:Int)
def Rd(w:η)(a:Option bW)(xs:List Nat):Prop:=
 ∀i,i<xs.length->∃b off,a=ζ ⟨b,off,δ⟩/\w.cell? ⟨b,off+i,δ⟩=ζ (iv (xs.getD i 0))
theorem A5{a b c:η}(h:a.grownBy b δ)(k:b.grownBy c row):a.grownBy c row:=
 ⟨k.os.trans h.os,k.tape.trans h.tape,k.output.trans h.output,aA h.size k.size,fun i hi hne=>(k.block i (cN hi h.size) hne).trans (h.block i hi sP)⟩
theorem JH(w:η)(FO:List χ)(e:cS):∀j u,FO[j]? =ζ u->(w.alloc (π FO.toArray e)).cell? ((⟨w.heap.size,0,δ⟩:bW).add j)=ζ u:=by
 intro j u hj;have:(⟨w.heap.size,0,δ⟩:bW).add j=⟨w.heap.size,j,δ⟩:=by unfold Addr.add;split <;>simp_all
 rw[this,Ij _ _ j FO.toArray e (0,0) (heap_alloc_new w _)];simpa using hj
theorem mD{g n:Nat}{cs:List χ}(h:w.ownsRow cH e size (Θ (ζ ⟨g,0,δ⟩) n cap) n cs):cH<=g/\g<w.heap.size/\n<=cap/\cap<=maxLen:=by
 rcases h.2 with⟨h1,_⟩|⟨g',c,pZ,hv,hb,hg,hn,hc,_⟩
 .simp at h1
 .injection hv with e1 e2 e3;injection e1 with e1;injection e1 with e1;subst e1 e3;exact⟨hb,(Array.getElem?_eq_some_iff.1 hg).1,hn,hc⟩
theorem JI{v:χ}(h:W.ownsRow cH e size v (k+1) xs):∃g cap,v=Θ (ζ ⟨g,0,δ⟩) (k+1) cap:=by
 rcases h.2 with⟨_,h2⟩|⟨g,cap,pZ,hv,_⟩
 .omega
 .exact⟨g,cap,hv⟩
theorem qV{v:χ}{n:Nat}(hn:0<n)(h:W.ownsRow cH e size v n xs):∃g cap,v=Θ (ζ ⟨g,0,δ⟩) n cap:=by
 rcases h.2 with⟨_,h2⟩|⟨g,cap,pZ,hv,_⟩
 .omega
 .exact⟨g,cap,hv⟩
theorem xH{o:eZ}{Q:sG->iS->η->Prop}(Io:o.guard=δ)(s x t)(ho:o.op=.call {callee:=.builtin .append,args:=#[s,x],argTypes:=#[t,t]})(cH e i z size bytes)(ht:P.underlying t=ζ (TypeDesc.slice e))(hi:P.info? e=ζ i)(hz:i.zero=ζ z)(aa5:i.size=size)(hby:i.bytes=bytes)(hzs:z.cells.size=size)(Dv:0<size)(v n xs)(hs:a.eval s=v)(cT:w.ownsRow cH e size v n xs)(FO)(hx:a.eval x=Θ (ζ ⟨w.heap.size,0,δ⟩) 1 1)(hl:FO.length=size)(h1:∀u∈FO,u.oneCell'=ι)(OZ:n+1<=2147483648)(YP:bytes<=4096)(kH:cH<=w.heap.size)(h:∀g cap w',w'.ownsRow cH e size (Θ (ζ ⟨g,0,δ⟩) (n+1) cap) (n+1) (xs++FO)->cH<=g->w.grownBy w' v.ownBlock->
  Dk P cF Q rest (a.put o.dst (Θ (ζ ⟨g,0,δ⟩) (n+1) cap)) w'):
 Dk P cF Q (o::rest) a (w.alloc (π FO.toArray e)):=by
 refine wpList_append_own _ Io s x t ho cH e i z size bytes ht hi hz aa5 hby hzs Dv v n xs hs (cT.alloc _) ⟨w.heap.size,0,δ⟩ 1 1 FO hx (by simp[hl]) (JH w FO e) h1
  (by simp only[maxLen];omega) (aA (Nat.mul_le_mul OZ YP) dD) (by simp;omega) ?_
 intro v' w' lH hg JJ;obtain⟨g',Ip,rfl⟩:=JI lH;exact h g' Ip w' lH (mD lH).1 (A5 (World.grownBy_alloc w _ δ) hg)
theorem dT{a:η}{v:χ}{n:Nat}{cs:List χ}(h:Below B a w)(hg:w.grownBy w' v.ownBlock)(cT:w.ownsRow cH e size v n cs)(hB:B<=cH)(hs:B<=w.heap.size):Below B a w':=
 h.grown hg hs fun k hk=>aA hB (cT.lt k hk).1
def RB:Nat:=1000000
def PB:Nat:=1000000000
theorem aR{n:Nat}{v:χ}(h:w.ownsRow cH e size v n xs)(hb:Bw w w'):w'.ownsRow cH e size v n xs:=by
 refine⟨h.1,?_⟩;rcases h.2 with h1|⟨g,cap,pZ,hv,hg,hh,r⟩
 .exact .inl h1
 .exact .inr ⟨g,cap,pZ,hv,hg,(hb.block g (Array.getElem?_eq_some_iff.1 hh).1).trans hh,r⟩
theorem jU{aM2 n:Nat}{v:χ}(h:w.ownsRow cH e size v n xs)(hb:aM2<=cH):w.ownsRow aM2 e size v n xs:=by
 refine⟨h.1,?_⟩;rcases h.2 with h1|⟨g,cap,pZ,hv,hg,r⟩
 .exact .inl h1
 .exact .inr ⟨g,cap,pZ,hv,aA hb hg,r⟩
theorem cD{a:η}(h:Below B a w)(k:Bw w w')(hB:B<=w.heap.size):Below B a w':=h.trans (k.mono hB)
theorem aY{p:bW}{v:χ}(hb:Bw W w')(h:W.cell? p=ζ v):w'.cell? p=ζ v:=
 (hb.cell (aD W p h)).trans h
theorem aW{a:η}(h:Bw a w)(k:Bw w w'):Bw a w':=cD h k h.size
theorem cb{a:Array χ}{v:χ}{R:Fg->η->Prop}(H:aE P f a W (Rt (v) W))(hB:Bw w W)(k:∀W',Bw W W'->Bw w W'->R (σ v) W'):aE P f a W R:=
 H.mono fun _ W' h=>by obtain⟨rfl,h⟩:=h;exact k W' h (cD hB h hB.size)
def bE(w:η)(b:Nat)(cs:Array χ)(T:cS):Prop:=w.heap[b]? =ζ (π cs T (0,0))
section
variable{w w':η}{b:Nat}{cs:Array χ}{T:cS}
theorem bE.cell(h:bE w b cs T)(j):w.cell? ⟨b,j,δ⟩=cs[j]?:=Ij w b j cs T (0,0) h
theorem bE.fz(h:bE w b cs T)(j):w.frozen? ⟨b,j,δ⟩=ν:=frozen_of_row w b j cs T h
theorem bE.lt(h:bE w b cs T):b<w.heap.size:=(Array.getElem?_eq_some_iff.1 h).1
theorem bE.new(w:η)(cs:Array χ)(T:cS):bE (w.alloc (π cs T)) w.heap.size cs T:=heap_alloc_new w _
theorem bE.alloc(h:bE w b cs T)(o):bE (w.alloc o) b cs T:=(xR w o b (Array.getElem?_eq_some_iff.1 h).1).trans h
theorem bE.set(h:bE w b cs T)(j v):bE (w.setCell ⟨b,j,δ⟩ v) b (cs.setIfInBounds j v) T:=heap_setCell_same w b j cs T v h
theorem bE.other(h:bE w b cs T){a:bW}(v)(hne:b≠a.block):bE (w.setCell a v) b cs T:=(dG w a b v hne).trans h
theorem bE.below(h:bE w b cs T)(hb:Below B w w')(hlt:b<B):bE w' b cs T:=(hb.block b hlt).trans h
theorem bE.grown(h:bE w b cs T)(hg:w.grownBy w' row)(hne:ζ b≠row):bE w' b cs T:=(hg.block b h.lt hne).trans h
end
theorem oF{n:Nat}{v:χ}(h:w.ownsRow cH e size v n xs){a:bW}(ha:a.block<cH)(u):(w.setCell a u).ownsRow cH e size v n xs:=
 ownsRow_setCell_below h ha u
theorem CL{n:Nat}{v:χ}(h:w.ownsRow cH e size v n xs){b:Nat}(hb:b<cH):ζ b≠v.ownBlock:=by
 intro e;have:=h.lt b e.symm;omega
theorem zf{a:Option α}{b c:α}(h:a=some b)(e:b=c:=by kernel_rfl):a=some c:=h.trans (congrArg some e)
theorem _root_.Go.RowKit.Hid.bb{b:Nat}(h:aQ (bE w b cs T))(hb:Bw w W):aQ (bE W b cs T):=h.o.below hb h.o.lt
theorem _root_.Go.RowKit.Hid.bS{a:η}(h:aQ (Bw a w))(hb:Bw w W):aQ (Bw a W):=aW h.o hb
theorem nA(w o):Bw w (w.alloc o):=rO (μ _ w) (θ _) o
theorem kF(h:p:=by kernel_rfl):p:=h
theorem ck{W w':World}(hb:Bw W w')(b o v)(h:W.cell? ⟨b,o,none⟩=some v:=by simp[*]):w'.cell? ⟨b,o,none⟩=some v:=aY hb h
section
variable{P:cQ}{f:vP}{ar:Array χ}{W:η}{v:χ}{S:η->Prop}{R:Fg->η->Prop}{p r:Prop}
theorem ka(H:aE P f ar W fun e w'=>e=σ v/\S w')(k:∀w',S w'->R (σ v) w'):aE P f ar W R:=
 (H.mono fun _ w'⟨h1,h2⟩=>h1▸k w' h2)
theorem kb{a:η}(H:aE P f ar W (Rt (v) W))(B:Bw a W)(k:∀w',aQ (Bw a w')->R (σ v) w'):aE P f ar W R:=
 (H.mono fun _ w'⟨h1,h2⟩=>h1▸k w' (cD B h2 B.size))
theorem kc{a:η}(H:aE P f ar W (Rt (v) W))(B:Bw a W)(k:∀w',Bw a w'->R (σ v) w'):aE P f ar W R:=
 (H.mono fun _ w'⟨h1,h2⟩=>h1▸k w' (cD B h2 B.size))
theorem kr(H:aE P f ar W fun e w'=>e=σ v/\W=w')(k:R (σ v) W):aE P f ar W R:=
 (H.mono fun _ _⟨h1,h2⟩=>h1▸h2▸k)
theorem pu(h:r)(g:r->p:=by intro h;(try simp only[Act.put,List.getElem_toArray,List.getElem_cons_succ,List.getElem_cons_zero,List.setIfInBounds_toArray,List.set_cons_zero,List.set_cons_succ]);exact h):p:=g h
end
theorem nm(a:α):∃x,a=x:=⟨a,rfl⟩
theorem bE.ce{w:World}{b:Nat}{cs:Array Value}{T:TypeId}(h:bE w b cs T)(i){v:Value}(e:cs[i]? =some v:=by(simp only[List.getElem?_toArray,List.getElem?_cons_zero,List.getElem?_cons_succ];exact rfl)):w.cell? ⟨b,i,none⟩=some v:=(h.cell i).trans e
section
def aQ7(F:Jy)(n:Nat)(P:cQ)(gf:Nat)(lb:Array χ)(yN:Nat->Array χ)(Kp:η->η->Prop)(N:Nat)(w:η):Prop:=
 ∀(l:Nat)(J Jx:Nat->η->Prop)(W:η),Bw w W->
  (∀k V,k<N->J k V->YieldAt F (n-1) P l (yN k) V fun e V'=>(e=σ (ω ι)/\J (k+1) V'/\Kp V V')\/(e=σ (ω ν)/\Jx (k+1) V'))->
  J 0 W->CallsIn F n P gf (#[.func (.yield l) #[] #[]]++lb) W fun e W'=>(∃v,e=σ v)/\(J N W'\/∃k,k<=N/\Jx k W')
def Bu(B:Nat)(Kp:η->η->Prop)(I:Nat->η->Prop)(Ix:Dl->Nat->η->Prop)(k:Nat)(W:η):sG->iS->η->Prop
 |.normal,_,V=>iB B W V/\Kp W V/\I k V
 |.ret,_,V=>iB B W V/\Ix .ret k V
 |.exit id,_,V=>iB B W V/\Ix (.exit id) k V
 |.goto t,_,V=>iB B W V/\Ix (.goto t) k V
 |.panic _,_,_=>False
 |.outgrown,_,_=>False
def gT(fn:Nat)(a:iS)(ps:Array Tmp)(assign body:Dl)(D:Nat)(st:LoopState)(pe:Option Dl):Loop:=
 {state:=st,pending:=pe,fn,tmps:=a.tmps,params:=ps,assign,body,defers:=D}
variable{F:Jy}{n:Nat}{P:cQ}
end
section
variable{P:cQ}
theorem eE{c:Dl}{R:Fg->η->Prop}(hf:P.funcs[f]? =ζ fn)(hb:fn.body=ζ c)(h:c.wp P (bodyPostM eD 9 P fn R) {tmps:=args++gA (fn.ntmps-args.size) ψ,defers:=[]} w):aE P f args w R:=
 callsIn_wide.1 (callsIn_of_wp_marks (F:=eD) (n:=9) hf hb trivial (wpIn_wide.2 h) rfl)
theorem Calls.round{R:Fg->η->Prop}(h:aE P f args w R)(l n):CallsIn (Fence.wide.inRound l) n P f args w R:=
 (callsIn_wide.2 h).inRound l
def CM(cF:Array eZ):Bool:=cF.all fun o=>match o.op with |.defer _=>ν|_=>ι
theorem M6(h:CM cF=ι){o:eZ}(ho:cF[i]? =ζ o):∀c,o.op≠.defer c:=by
 intro c hc;obtain⟨hi,rfl⟩:=Array.getElem?_eq_some_iff.1 ho;have:=Array.all_eq_true.1 h i hi;rw[hc]at this;cases this
theorem UK{F:Jy}{n:Nat}{Q:sG->iS->η->Prop}(l)(hd:CM cF=ι):
 ∀(fuel:Nat)(jV:Array Bool)(a:iS)(w:η),uM F n P md cF Q fuel jV a w->uM (F.inRound l) n P md cF Q fuel jV a w:=by
 intro fuel;induction fuel with
 |zero=>exact fun _ _ _ h=>h
 |succ fuel ih=>
  intro jV a w h;refine⟨h.1,fun i hi=>?_⟩;have hop:=h.2 i hi;unfold wpOpIn at hop|-;cases ho:cF[i]? with
  |none=>rw[ho]at hop;exact ih _ _ _ hop
  |some o=>
   rw[ho]at hop;simp only at hop|-;split
   .rename_i hw;rw[ip hw]at hop;have hm:=Oper.wpIn_mono (K':=uM (F.inRound l) n P md cF Q fuel (jV.setIfInBounds i ι)) (fun a w=>ih _ a w) hop;unfold tB at hm|-;refine⟨hm.1,?_⟩;have h2:=hm.2;rw[pF F _ _ (M6 hd ho)]at h2;rw[pF (F.inRound l) _ _ (M6 hd ho)];exact h2
   .rename_i hw;rw[iN hw]at hop;exact⟨hop.1,ih _ _ _ hop.2⟩
theorem CN{n:Nat}{Q:sG->iS->η->Prop}{l:Nat}(hm:P.follows .mixedOrders=ι)(hd:CM cF=ι)(h:uM eD n P .any cF Q cF.size (gA cF.size ν) a w.drew):(pS id cF ι).wpIn (Fence.wide.inRound l) n P Q a w:=
 wpIn_region_any hm (UK l hd _ _ _ _ h)
end
section
variable{P:cQ}
theorem pj{n:Nat}{o:eZ}{K:iS->η->Prop}{Q:sG->iS->η->Prop}(h:OQ P o a w K Q):tB eD n P o a w K Q:=by
 refine⟨fun _ _=>trivial,?_⟩;unfold OQ at h;show Oper.uponIn _ _ _ _ _ _ _ ((Oper.semAt δ a.eval o).run P w);rw[Oper.semAt_none];generalize(uH a.eval o).run P w=r at h|-;unfold Oper.upon at h;split at h
 .exact h
 .exact h
 .exact h
 .refine⟨fun h=>(by cases h),(callsIn_wide.2 h).mono ?_⟩;intro e w' he;exact he
 .refine⟨fun h=>(by cases h),?_⟩;intro c cs _;obtain⟨v,w',r,s⟩:=h c cs;exact⟨v,w',r,stepsIn_wide.2 s⟩
 .exact h
 .exact h.elim
theorem Iq{n:Nat}{Q:sG->iS->η->Prop}{K:iS->η->Prop}(hQ:¬LetsOut Q)(h:wpOp P cF Q i K a w):wpOpIn eD n P cF Q i K a w:=by
 unfold wpOp at h;unfold wpOpIn;cases ho:cF[i]? with
 |none=>rw[ho]at h;exact h
 |some o=>
  rw[ho]at h;simp only at h|-;split
  .rename_i hw;rw[ip hw]at h;rcases h with h|⟨_,h⟩
   .exact pj h
   .exact absurd h hQ
  .rename_i hw;rw[iN hw]at h;exact⟨fun _ _=>trivial,h⟩
theorem Gi{n:Nat}{Q:sG->iS->η->Prop}{S:η->Prop}(hQ:¬LetsOut Q):
 ∀(fuel:Nat)(jV:Array Bool)(a:iS)(w:η),YA P md cF Q S fuel jV a w->uM eD n P md cF Q fuel jV a w
 |0,_,_,_,h=>h
 |fuel+1,_,_,_,h=>⟨h.1,fun i hi=>Iq hQ (wpOp_mono (fun a' w' h'=>Gi hQ fuel _ a' w' h'.2) (h.2 i hi))⟩
theorem Ir{n:Nat}{Q:sG->iS->η->Prop}{l:Nat}{S:η->Prop}(hm:P.follows .mixedOrders=ι)(hd:CM cF=ι)(hQ:¬LetsOut Q)(hS:S w.drew)(h:S w.drew->YA P .any cF Q S cF.size (gA cF.size ν) a w.drew):(pS id cF ι).wpIn (Fence.wide.inRound l) n P Q a w:=
 CN hm hd (Gi hQ _ _ _ _ (h hS))
def jH(Q:sG->iS->η->Prop):sG->iS->η->Prop
 |.normal,a,w=>Q .normal a w
 |_,_,_=>False
theorem jH.normal{Q:sG->iS->η->Prop}(h:Q .normal a w):jH Q .normal a w:=h
theorem jH.imp{Q:sG->iS->η->Prop}:∀(e:sG)(a:iS)(w:η),jH Q e a w->Q e a w:=fun e a w h=>by
 cases e<;>first |exact h|exact(h:False).elim
theorem jH.no{Q:sG->iS->η->Prop}:¬LetsOut (jH Q):=fun⟨_,_,h⟩=>(h:False).elim
theorem uO{n:Nat}{Q:sG->iS->η->Prop}{l:Nat}{S:η->Prop}(hm:P.follows .mixedOrders=ι)(hd:CM cF=ι)(hS:S w.drew)(h:S w.drew->YA P .any cF (jH Q) S cF.size (gA cF.size ν) a w.drew):(pS id cF ι).wpIn (Fence.wide.inRound l) n P Q a w:=
 zj (Ir hm hd jH.no hS h) jH.imp
end
section
def UM(F:Jy)(n:Nat)(P:cQ)(gf:Nat)(lb:Array χ)(yN:Nat->Array χ)(Kp:η->η->Prop)(N:Nat)(w:η):Prop:=
 ∀(l:Nat)(J Jx:Nat->η->Prop)(W:η),Bw w W->(∀k V V',J k V->Bw V V'->J k V')->
  (∀k V,k<N->J k V->YieldAt F (n-1) P l (yN k) V fun e V'=>(e=σ (ω ι)/\J (k+1) V'/\Kp V V')\/(e=σ (ω ν)/\Jx (k+1) V'))->
  J 0 W->CallsIn F n P gf (#[.func (.yield l) #[] #[]]++lb) W fun e W'=>(∃v,e=σ v)/\(J N W'\/∃k,k<=N/\Jx k W')
theorem uP(h:Bw W W'):W.grownBy W' δ:=⟨h.os,h.tape,h.output,h.size,fun k hk _=>h.block k hk⟩
variable{F:Jy}{n:Nat}{P:cQ}
theorem SE{Q:sG->iS->η->Prop}(hro:F.round=δ)(h1:1<=n)(hg:a.eval g=.func (.func gf) #[] lb)(hFg:F.fn gf)(eg:∀args w,(nU gf args).run P w=.ok (.enter gf args) w){yN:Nat->Array χ}{Kp:η->η->Prop}(M7:UM F (n-1) P gf lb yN Kp N w0)(Jt:Bw w0 w)(YQ:∀{A B C:η},Kp A B->Kp B C->Kp A C)(fg:∀(W:η)(l:Nat)(o o':Obj),w.heap.size<=l->W.heap[l]? =ζ o->o.isCells=ν->o.isWalk=ν->Kp W (W.putObj l o'))(lI:∀k,(yN k).size=ps.size)(I:Nat->η->Prop)(Ix:Dl->Nat->η->Prop)(hI:zM w.heap.size I)(JK:∀c,zM w.heap.size (Ix c))(h0:I 0 w)(JL:Nat->iS)(rR:∀(l:Nat)(k:Nat)(W:η)(K:iS->η->Prop),K (JL k) W->
  assign.wpIn (F.inRound l) (n-1-1) P (Exit.then K (fun _ _ _=>False)) {tmps:=(ps.zip (yN k)).foldl (fun t(p,v)=>t.setIfInBounds p v) a.tmps,defers:=[]} W)(Bv:∀(l:Nat)(k:Nat)(W:η),k<N->I k W->body.wpIn (F.inRound l) (n-1-1) P (Bu w.heap.size Kp I Ix (k+1) W) (JL k) W)(By:∀(D:Nat)(W:η),w.heap.size<=D->I N W->W.heap[D]? =ζ (.deferred (ζ []))->Q .normal {a with defers:={target:=.collected D,args:=#[]}::a.defers} W)(Bz:∀(D:Nat)(c:Dl)(k:Nat)(W:η),w.heap.size<=D->k<=N->Ix c k W->W.heap[D]? =ζ (.deferred (ζ []))->c.wpIn F n P Q {a with defers:={target:=.collected D,args:=#[]}::a.defers} W):
 (Bi g ps assign body).wpIn F n P Q a w:=by
 refine wpIn_rangeFunc ?_
 intro fn hfn
 rw[hro]
 have hD:=kZ w (.deferred (ζ []))
 obtain⟨V,hV⟩:=nm ((w.alloc (.deferred (ζ []))).alloc (.loop (gT fn a ps assign body w.heap.size .ready δ)))
 have kD:V.heap[w.heap.size]? =ζ (.deferred (ζ [])):=by rw[<-hV];exact(xR _ _ _ sP).trans hD
 have kL:V.heap[w.heap.size+1]? =ζ (.loop (gT fn a ps assign body w.heap.size .ready δ)):=by
  rw[<-hV]
  have:=kZ (w.alloc (.deferred (ζ []))) (.loop (gT fn a ps assign body w.heap.size .ready δ))
  rwa[aL]at this
 have kI:I 0 V:=by rw[<-hV];exact hI.alloc _ (hI.alloc _ h0)
 have kB:Bw w0 V:=by
  rw[<-hV];exact Jt.trans (((nA w _).alloc sP _).mono Jt.size)
 refine⟨w.heap.size+1,[{target:=.collected w.heap.size,args:=#[]}],V,{target:=.fn (.func gf) lb,args:=#[.func (.yield (w.heap.size+1)) #[] #[]]},V,gf,
  #[.func (.yield (w.heap.size+1)) #[] #[]]++lb,V,?_,?_,?_,?_,fun _=>h1,?_⟩
 .rw[<-hV];exact run_enterLoop_outer _ _ _ _ _
 .simp only[resolve,hg]
  simp[go_sem]
 .intro f hf
  simp[Target.leads]at hf
  subst hf;exact hFg
 .simp[invoke,go_sem,eg]
 .have zU:=M7 (w.heap.size+1)
   (fun k W=>I k W/\W.heap[w.heap.size+1]? =ζ (.loop (gT fn a ps assign body w.heap.size .ready δ))/\W.heap[w.heap.size]? =ζ (.deferred (ζ [])))
   (fun k W=>∃c,Ix c k W/\W.heap[w.heap.size+1]? =ζ (.loop (gT fn a ps assign body w.heap.size .done (ζ c)))/\W.heap[w.heap.size]? =ζ (.deferred (ζ [])))
   V kB (fun k A B⟨h1,h2,h3⟩hb=>⟨hI k A B δ h1 (uP hb) (fun r e=>by cases e),(hb.block _ (Array.getElem?_eq_some_iff.1 h2).1).trans h2,(hb.block _ (Array.getElem?_eq_some_iff.1 h3).1).trans h3⟩) ?round ⟨kI,kL,kD⟩
  case round=>
   rintro k W hk⟨hi,hl,hd⟩
   have hlt:w.heap.size+1<W.heap.size:=(Array.getElem?_eq_some_iff.1 hl).1
   have hy:=run_yield (P:=P) (args:=yN k) hl (by exact lI k)
   refine⟨fn,_,assign,body,hy,roundIn_of_wpIn hfn (rR _ k W _ ⟨_,run_beginRound hl rfl,?_⟩)⟩
   obtain⟨U,hU⟩:=nm (W.putObj (w.heap.size+1) (.loop (gT fn a ps assign body w.heap.size .busy δ)))
   have uL:U.heap[w.heap.size+1]? =ζ (.loop (gT fn a ps assign body w.heap.size .busy δ)):=by rw[<-hU];exact pJ hlt
   have uD:U.heap[w.heap.size]? =ζ (.deferred (ζ [])):=by rw[<-hU];exact(cZ oM).trans hd
   have uK:Kp W U:=by rw[<-hU];exact fg _ _ _ _ oM hl rfl rfl
   have uI:I k U:=by rw[<-hU];exact hI.putObj _ hi oM hl rfl
   have UN:∀(j:Option Dl)(X:η),iB w.heap.size U X->
    X.heap[w.heap.size+1]? =ζ (.loop (gT fn a ps assign body w.heap.size .busy δ))/\
    (F8 (w.heap.size+1) j).run P X=.ok (ω j.isNone) (X.putObj (w.heap.size+1) (.loop (gT fn a ps assign body w.heap.size (if j.isNone then .ready else .done) j)))/\
    (X.putObj (w.heap.size+1) (.loop (gT fn a ps assign body w.heap.size (if j.isNone then .ready else .done) j))).heap[w.heap.size+1]? =ζ (.loop (gT fn a ps assign body w.heap.size (if j.isNone then .ready else .done) j))/\
    (X.putObj (w.heap.size+1) (.loop (gT fn a ps assign body w.heap.size (if j.isNone then .ready else .done) j))).heap[w.heap.size]? =ζ (.deferred (ζ [])):=by
    intro j X hX
    have xL:=hX.same _ _ oM uL rfl
    exact⟨xL,run_endRound (P:=P) j xL,pJ (Array.getElem?_eq_some_iff.1 xL).1,(cZ oM).trans (hX.same _ _ (θ _) uD rfl)⟩
   show Code.wpIn _ _ _ _ _ _ (W.putObj (w.heap.size+1) (.loop (gT fn a ps assign body w.heap.size .busy δ)))
   rw[hU]
   refine zj (Bv _ k U hk uI) ?_
   intro e a3 X hp
   have M8:∀c:Dl,iB w.heap.size U X/\Ix c (k+1) X->_:=fun c hc=>(UN (ζ c) X hc.1)
   cases e with
   |normal=>
    obtain⟨xL,xr,yL,yD⟩:=UN δ X hp.1
    exact⟨_,_,xr,.inl ⟨rfl,⟨hI.putObj _ hp.2.2 oM xL rfl,yL,yD⟩,YQ (YQ uK hp.2.1) (fg _ _ _ _ oM xL rfl rfl)⟩⟩
   |ret=>
    obtain⟨xL,xr,yL,yD⟩:=M8 .ret hp
    exact⟨_,_,xr,.inr ⟨rfl,.ret,(JK _).putObj _ hp.2 oM xL rfl,yL,yD⟩⟩
   |exit id=>
    obtain⟨xL,xr,yL,yD⟩:=M8 (.exit id) hp
    exact⟨_,_,xr,.inr ⟨rfl,.exit id,(JK _).putObj _ hp.2 oM xL rfl,yL,yD⟩⟩
   |goto t=>
    obtain⟨xL,xr,yL,yD⟩:=M8 (.goto t) hp
    exact⟨_,_,xr,.inr ⟨rfl,.goto t,(JK _).putObj _ hp.2 oM xL rfl,yL,yD⟩⟩
   |panic ch=>exact hp.elim
   |outgrown=>exact hp.elim
  refine zU.mono ?_
  rintro e W2⟨⟨v,rfl⟩,(⟨hi,hl,hd⟩|⟨k,hk,c,hi,hl,hd⟩)⟩
  .exact⟨δ,_,Qd (P:=P) hl (by simp[gT]),By _ _ (θ _) (hI.putObj _ hi oM hl rfl) ((cZ oM).trans hd)⟩
  .exact⟨ζ c,_,Qd (P:=P) hl (by simp[gT]),Bz _ c k _ (θ _) hk ((JK c).putObj _ hi oM hl rfl) ((cZ oM).trans hd)⟩
theorem YT{Q:sG->iS->η->Prop}(hg:a.eval g=.func (.func gf) #[] lb)(eg:∀args w,(nU gf args).run P w=.ok (.enter gf args) w){yN:Nat->Array χ}{Kp:η->η->Prop}(M7:UM eD 8 P gf lb yN Kp N w)(YQ:∀{A B C:η},Kp A B->Kp B C->Kp A C)(fg:∀(W:η)(l:Nat)(o o':Obj),w.heap.size<=l->W.heap[l]? =ζ o->o.isCells=ν->o.isWalk=ν->Kp W (W.putObj l o'))(lI:∀k,(yN k).size=ps.size)(I:Nat->η->Prop)(Ix:Dl->Nat->η->Prop)(hI:zM w.heap.size I)(JK:∀c,zM w.heap.size (Ix c))(h0:I 0 w)(JL:Nat->iS)(rR:∀(l:Nat)(k:Nat)(W:η)(K:iS->η->Prop),K (JL k) W->
  assign.wpIn (Fence.wide.inRound l) 7 P (Exit.then K (fun _ _ _=>False)) {tmps:=(ps.zip (yN k)).foldl (fun t(p,v)=>t.setIfInBounds p v) a.tmps,defers:=[]} W)(Bv:∀(l:Nat)(k:Nat)(W:η),k<N->I k W->body.wpIn (Fence.wide.inRound l) 7 P (Bu w.heap.size Kp I Ix (k+1) W) (JL k) W)(By:∀(D:Nat)(W:η),w.heap.size<=D->I N W->W.heap[D]? =ζ (.deferred (ζ []))->Q .normal {a with defers:={target:=.collected D,args:=#[]}::a.defers} W)(Bz:∀(D:Nat)(c:Dl)(k:Nat)(W:η),w.heap.size<=D->k<=N->Ix c k W->W.heap[D]? =ζ (.deferred (ζ []))->c.wp P Q {a with defers:={target:=.collected D,args:=#[]}::a.defers} W):
 (Bi g ps assign body).wp P Q a w:=
 (wpIn_wide (n:=9)).1 (SE (F:=eD) rfl dD hg trivial eg M7 (μ _ _) YQ fg lI I Ix hI JK h0 JL rR Bv By (fun D c k W h1 h2 h3 h4=>wpIn_wide.2 (Bz D c k W h1 h2 h3 h4)))
end
section
variable{F:Jy}{n:Nat}{P:cQ}
theorem aQ7.m{yN:Nat->Array χ}{Kp:η->η->Prop}(h:aQ7 F n P gf lb yN Kp N w):UM F n P gf lb yN Kp N w:=fun l J Jx W hW _ hY h0=>h l J Jx W hW hY h0
theorem SH{Q:sG->iS->η->Prop}(hro:F.round=δ)(h1:1<=n)(hg:a.eval g=.func (.func gf) #[] lb)(hFg:F.fn gf)(eg:∀args w,(nU gf args).run P w=.ok (.enter gf args) w){yN:Nat->Array χ}{Kp:η->η->Prop}(M7:UM F (n-1) P gf lb yN Kp N w0)(Jt:Bw w0 w)(YQ:∀{A B C:η},Kp A B->Kp B C->Kp A C)(fg:∀(W:η)(l:Nat)(o o':Obj),w.heap.size<=l->W.heap[l]? =ζ o->o.isCells=ν->o.isWalk=ν->Kp W (W.putObj l o'))(lI:∀k,(yN k).size=ps.size)(I:Nat->η->Prop)(Ix:Dl->Nat->η->Prop)(hI:zM w.heap.size I)(JK:∀c,zM w.heap.size (Ix c))(h0:I 0 w)(I1:iS->Nat->η->Prop)(hI1:∀a',zM w.heap.size (I1 a'))(rR:∀(l:Nat)(k:Nat)(W:η)(K:iS->η->Prop),k<N->I k W->(∀a' W',iB w.heap.size W W'->Kp W W'->I1 a' k W'->K a' W')->
  assign.wpIn (F.inRound l) (n-1-1) P (Exit.then K (fun _ _ _=>False)) {tmps:=(ps.zip (yN k)).foldl (fun t(p,v)=>t.setIfInBounds p v) a.tmps,defers:=[]} W)(Bv:∀(l:Nat)(k:Nat)(a':iS)(W:η),k<N->I1 a' k W->body.wpIn (F.inRound l) (n-1-1) P (Bu w.heap.size Kp I Ix (k+1) W) a' W)(By:∀(D:Nat)(W:η),w.heap.size<=D->I N W->W.heap[D]? =ζ (.deferred (ζ []))->Q .normal {a with defers:={target:=.collected D,args:=#[]}::a.defers} W)(Bz:∀(D:Nat)(c:Dl)(k:Nat)(W:η),w.heap.size<=D->k<=N->Ix c k W->W.heap[D]? =ζ (.deferred (ζ []))->c.wpIn F n P Q {a with defers:={target:=.collected D,args:=#[]}::a.defers} W):
 (Bi g ps assign body).wpIn F n P Q a w:=by
 refine wpIn_rangeFunc ?_
 intro fn hfn
 rw[hro]
 have hD:=kZ w (.deferred (ζ []))
 obtain⟨V,hV⟩:=nm ((w.alloc (.deferred (ζ []))).alloc (.loop (gT fn a ps assign body w.heap.size .ready δ)))
 have kD:V.heap[w.heap.size]? =ζ (.deferred (ζ [])):=by rw[<-hV];exact(xR _ _ _ sP).trans hD
 have kL:V.heap[w.heap.size+1]? =ζ (.loop (gT fn a ps assign body w.heap.size .ready δ)):=by
  rw[<-hV]
  have:=kZ (w.alloc (.deferred (ζ []))) (.loop (gT fn a ps assign body w.heap.size .ready δ))
  rwa[aL]at this
 have kI:I 0 V:=by rw[<-hV];exact hI.alloc _ (hI.alloc _ h0)
 have kB:Bw w0 V:=by
  rw[<-hV];exact Jt.trans (((nA w _).alloc sP _).mono Jt.size)
 refine⟨w.heap.size+1,[{target:=.collected w.heap.size,args:=#[]}],V,{target:=.fn (.func gf) lb,args:=#[.func (.yield (w.heap.size+1)) #[] #[]]},V,gf,
  #[.func (.yield (w.heap.size+1)) #[] #[]]++lb,V,?_,?_,?_,?_,fun _=>h1,?_⟩
 .rw[<-hV];exact run_enterLoop_outer _ _ _ _ _
 .simp only[resolve,hg]
  simp[go_sem]
 .intro f hf
  simp[Target.leads]at hf
  subst hf;exact hFg
 .simp[invoke,go_sem,eg]
 .have zU:=M7 (w.heap.size+1)
   (fun k W=>I k W/\W.heap[w.heap.size+1]? =ζ (.loop (gT fn a ps assign body w.heap.size .ready δ))/\W.heap[w.heap.size]? =ζ (.deferred (ζ [])))
   (fun k W=>∃c,Ix c k W/\W.heap[w.heap.size+1]? =ζ (.loop (gT fn a ps assign body w.heap.size .done (ζ c)))/\W.heap[w.heap.size]? =ζ (.deferred (ζ [])))
   V kB (fun k A B⟨h1,h2,h3⟩hb=>⟨hI k A B δ h1 (uP hb) (fun r e=>by cases e),(hb.block _ (Array.getElem?_eq_some_iff.1 h2).1).trans h2,(hb.block _ (Array.getElem?_eq_some_iff.1 h3).1).trans h3⟩) ?round ⟨kI,kL,kD⟩
  case round=>
   rintro k W hk⟨hi,hl,hd⟩
   have hy:=run_yield (P:=P) (args:=yN k) hl (by exact lI k)
   refine⟨fn,_,assign,body,hy,roundIn_of_wpIn hfn (rR _ k W _ hk hi (fun a' W' hkf hkp hi1=>?_))⟩
   have UO:=hkf.same _ _ oM hl rfl
   have hd':=hkf.same _ _ (θ _) hd rfl
   have hlt:w.heap.size+1<W'.heap.size:=(Array.getElem?_eq_some_iff.1 UO).1
   refine⟨_,run_beginRound UO rfl,?_⟩
   obtain⟨U,hU⟩:=nm (W'.putObj (w.heap.size+1) (.loop (gT fn a ps assign body w.heap.size .busy δ)))
   have uL:U.heap[w.heap.size+1]? =ζ (.loop (gT fn a ps assign body w.heap.size .busy δ)):=by rw[<-hU];exact pJ hlt
   have uD:U.heap[w.heap.size]? =ζ (.deferred (ζ [])):=by rw[<-hU];exact(cZ oM).trans hd'
   have uK:Kp W U:=by rw[<-hU];exact YQ hkp (fg _ _ _ _ oM UO rfl rfl)
   have uI:I1 a' k U:=by rw[<-hU];exact(hI1 a').putObj _ hi1 oM UO rfl
   have UN:∀(j:Option Dl)(X:η),iB w.heap.size U X->
    X.heap[w.heap.size+1]? =ζ (.loop (gT fn a ps assign body w.heap.size .busy δ))/\
    (F8 (w.heap.size+1) j).run P X=.ok (ω j.isNone) (X.putObj (w.heap.size+1) (.loop (gT fn a ps assign body w.heap.size (if j.isNone then .ready else .done) j)))/\
    (X.putObj (w.heap.size+1) (.loop (gT fn a ps assign body w.heap.size (if j.isNone then .ready else .done) j))).heap[w.heap.size+1]? =ζ (.loop (gT fn a ps assign body w.heap.size (if j.isNone then .ready else .done) j))/\
    (X.putObj (w.heap.size+1) (.loop (gT fn a ps assign body w.heap.size (if j.isNone then .ready else .done) j))).heap[w.heap.size]? =ζ (.deferred (ζ [])):=by
    intro j X hX
    have xL:=hX.same _ _ oM uL rfl
    exact⟨xL,run_endRound (P:=P) j xL,pJ (Array.getElem?_eq_some_iff.1 xL).1,(cZ oM).trans (hX.same _ _ (θ _) uD rfl)⟩
   show Code.wpIn _ _ _ _ _ _ (W'.putObj (w.heap.size+1) (.loop (gT fn a ps assign body w.heap.size .busy δ)))
   rw[hU]
   refine zj (Bv _ k a' U hk uI) ?_
   intro e a3 X hp
   have M8:∀c:Dl,iB w.heap.size U X/\Ix c (k+1) X->_:=fun c hc=>(UN (ζ c) X hc.1)
   cases e with
   |normal=>
    obtain⟨xL,xr,yL,yD⟩:=UN δ X hp.1
    exact⟨_,_,xr,.inl ⟨rfl,⟨hI.putObj _ hp.2.2 oM xL rfl,yL,yD⟩,YQ (YQ uK hp.2.1) (fg _ _ _ _ oM xL rfl rfl)⟩⟩
   |ret=>
    obtain⟨xL,xr,yL,yD⟩:=M8 .ret hp
    exact⟨_,_,xr,.inr ⟨rfl,.ret,(JK _).putObj _ hp.2 oM xL rfl,yL,yD⟩⟩
   |exit id=>
    obtain⟨xL,xr,yL,yD⟩:=M8 (.exit id) hp
    exact⟨_,_,xr,.inr ⟨rfl,.exit id,(JK _).putObj _ hp.2 oM xL rfl,yL,yD⟩⟩
   |goto t=>
    obtain⟨xL,xr,yL,yD⟩:=M8 (.goto t) hp
    exact⟨_,_,xr,.inr ⟨rfl,.goto t,(JK _).putObj _ hp.2 oM xL rfl,yL,yD⟩⟩
   |panic ch=>exact hp.elim
   |outgrown=>exact hp.elim
  refine zU.mono ?_
  rintro e W2⟨⟨v,rfl⟩,(⟨hi,hl,hd⟩|⟨k,hk,c,hi,hl,hd⟩)⟩
  .exact⟨δ,_,Qd (P:=P) hl (by simp[gT]),By _ _ (θ _) (hI.putObj _ hi oM hl rfl) ((cZ oM).trans hd)⟩
  .exact⟨ζ c,_,Qd (P:=P) hl (by simp[gT]),Bz _ c k _ (θ _) hk ((JK c).putObj _ hi oM hl rfl) ((cZ oM).trans hd)⟩
theorem M9{Q:sG->iS->η->Prop}(hg:a.eval g=.func (.func gf) #[] lb)(eg:∀args w,(nU gf args).run P w=.ok (.enter gf args) w){yN:Nat->Array χ}{Kp:η->η->Prop}(M7:UM eD 8 P gf lb yN Kp N w)(YQ:∀{A B C:η},Kp A B->Kp B C->Kp A C)(fg:∀(W:η)(l:Nat)(o o':Obj),w.heap.size<=l->W.heap[l]? =ζ o->o.isCells=ν->o.isWalk=ν->Kp W (W.putObj l o'))(lI:∀k,(yN k).size=ps.size)(I:Nat->η->Prop)(Ix:Dl->Nat->η->Prop)(hI:zM w.heap.size I)(JK:∀c,zM w.heap.size (Ix c))(h0:I 0 w)(I1:iS->Nat->η->Prop)(hI1:∀a',zM w.heap.size (I1 a'))(rR:∀(l:Nat)(k:Nat)(W:η)(K:iS->η->Prop),k<N->I k W->(∀a' W',iB w.heap.size W W'->Kp W W'->I1 a' k W'->K a' W')->
  assign.wpIn (Fence.wide.inRound l) 7 P (Exit.then K (fun _ _ _=>False)) {tmps:=(ps.zip (yN k)).foldl (fun t(p,v)=>t.setIfInBounds p v) a.tmps,defers:=[]} W)(Bv:∀(l:Nat)(k:Nat)(a':iS)(W:η),k<N->I1 a' k W->body.wpIn (Fence.wide.inRound l) 7 P (Bu w.heap.size Kp I Ix (k+1) W) a' W)(By:∀(D:Nat)(W:η),w.heap.size<=D->I N W->W.heap[D]? =ζ (.deferred (ζ []))->Q .normal {a with defers:={target:=.collected D,args:=#[]}::a.defers} W)(Bz:∀(D:Nat)(c:Dl)(k:Nat)(W:η),w.heap.size<=D->k<=N->Ix c k W->W.heap[D]? =ζ (.deferred (ζ []))->c.wp P Q {a with defers:={target:=.collected D,args:=#[]}::a.defers} W):
 (Bi g ps assign body).wp P Q a w:=
 (wpIn_wide (n:=9)).1 (SH (F:=eD) rfl dD hg trivial eg M7 (μ _ _) YQ fg lI I Ix hI JK h0 I1 hI1 rR Bv By (fun D c k W h1 h2 h3 h4=>wpIn_wide.2 (Bz D c k W h1 h2 h3 h4)))
end
end
section
def kR(p:Nat->Bool):Nat->Int
 |0=>-1
 |n+1=>if kR p n= -1 then(if p n=ι then(n:Int)else -1)else kR p n
def anyN(p:Nat->Bool):Nat->Bool
 |0=>ν
 |n+1=>anyN p n||p n
theorem yZ{p:Nat->Bool}(h:kR p k= -1)(hp:p k=ν):kR p (k+1)= -1:=by rw[kR,ip h,hp];rfl
theorem zV{p:Nat->Bool}(h:kR p k= -1)(hp:p k=ι):∀{n:Nat},k<n->kR p n=k
 |0,hn=>oM
 |n+1,hn=>by
  rcases Nat.lt_succ_iff_lt_or_eq.1 hn with h1|rfl
  .rw[kR,zV h hp h1,iN oM]
  .rw[kR,ip h,ip hp]
theorem fh(p:Nat->Bool):∀n,kR p n= -1\/0<=kR p n
 |0=>.inl rfl
 |n+1=>by
  rw[kR]
  split
  .split
   .right;omega
   .exact .inl rfl
  .rcases fh p n with h|h
   .contradiction
   .exact .inr h
theorem BA(p:Nat->Bool):∀n,anyN p n=decide (0<=kR p n)
 |0=>rfl
 |n+1=>by
  rw[anyN,kR,BA p n]
  rcases fh p n with h|h
  .rw[ip h,h]
   cases p n
   .rfl
   .simp
  .rw[iN oM,decide_eq_true h,Bool.true_or]
theorem eF{p:Nat->Bool}:∀{n:Nat},anyN p n=ι↔∃k,k<n/\p k=ι
 |0=>⟨fun h=>(by cases h),fun⟨k,h,_⟩=>oM⟩
 |n+1=>by
  rw[anyN,jZ,eF]
  constructor
  .rintro(⟨k,h1,h2⟩|h)
   .exact⟨k,oM,h2⟩
   .exact⟨n,oM,h⟩
  .rintro⟨k,h1,h2⟩
   rcases Nat.lt_succ_iff_lt_or_eq.1 h1 with h|rfl
   .exact .inl ⟨k,h,h2⟩
   .exact .inr h2
theorem bJ{p:Nat->Bool}{n:Nat}:anyN p n=ν↔∀k,k<n->p k=ν:=by
 rw[<-Bool.not_eq_true,eF];constructor
 .intro h k hk;cases e:p k
  .rfl
  .exact absurd ⟨k,hk,e⟩ h
 .rintro h⟨k,hk,e⟩;rw[h k hk]at e;cases e
theorem iA{p:Nat->Bool}(h:anyN p k=ν)(hp:p k=ν):anyN p (k+1)=ν:=by rw[anyN,h,hp];rfl
theorem aN{xs:List α}(h:i<xs.length)(d:α):xs.getD i d∈xs:=by simp[Ω,h]
end
section
open Go Go.Lib
section
variable{κ β:Type}[DecidableEq κ]
def mR:List (κ×β)->κ->Option β
 |[],_=>δ
 |(a,v)::l,k=>if a=k then ζ v else mR l k
def kJ:List (κ×β)->κ->β->List (κ×β)
 |[],k,v=>[(k,v)]
 |(a,u)::l,k,v=>if a=k then(k,v)::l else(a,u)::kJ l k v
theorem D9(l:List (κ×β))(k:κ)(v:β)(j:κ):mR (kJ l k v) j=if k=j then ζ v else mR l j:=by
 induction l with
 |nil=>rfl
 |cons p l ih=>
  obtain⟨a,u⟩:=p;unfold kJ;by_cases h:a=k
  .rw[ip h];subst h;rw[mR,mR];split
   .rfl
   .rfl
  .rw[iN h,mR,mR,ih];by_cases h2:a=j
   .rw[ip h2,ip h2,iN (fun e=>h (by rw[h2,e]))]
   .rw[iN h2,iN h2]
def bD3:List (κ×β)->κ->Nat->Option (Nat×β)
 |[],_,_=>δ
 |(a,v)::l,k,i=>if k=a then ζ (i,v)else bD3 l k (i+1)
theorem Qm(l:List (κ×β))(k:κ)(i:Nat):(bD3 l k i).map (·.2)=mR l k:=by
 induction l generalizing i with
 |nil=>rfl
 |cons p l ih=>
  obtain⟨a,u⟩:=p;rw[bD3,mR];by_cases h:a=k
  .rw[ip h.symm,ip h];rfl
  .rw[iN (fun e=>h e.symm),iN h,ih]
variable(enc:κ->χ)(val:β->χ)
def xY:Nat->List (κ×β)->List MapEntry
 |_,[]=>[]
 |i,(k,v)::l=>⟨enc k,val v,i⟩::xY (i+1) l
def mS(l:List (κ×β)):Obj:=.map (xY enc val 0 l).toArray l.length
theorem Mw{p:Nat}{l:List (κ×β)}{k:κ}{v:β}(h:bD3 l k j=ζ (p,v)):j<=p/\(xY enc val i l)[p-j]? =ζ ⟨enc k,val v,i+(p-j)⟩:=by
 induction l generalizing i j with
 |nil=>cases h
 |cons q l ih=>
  obtain⟨a,u⟩:=q;rw[bD3]at h;by_cases e:k=a
  .rw[ip e]at h;cases h;subst e;refine⟨θ _,?_⟩;rw[CI,xY];rfl
  .rw[iN e]at h;obtain⟨h1,h2⟩:=ih (i:=i+1) h;refine⟨oM,?_⟩;rw[xY,show p-j=(p-(j+1))+1 by omega,cO,h2];congr 2;omega
theorem Ld{p:Nat}{l:List (κ×β)}{k:κ}{v u:β}(h:bD3 l k j=ζ (p,u)):(xY enc val i l).modify (p-j) (fun e=>{e with key:=enc k,val:=val v})=xY enc val i (kJ l k v):=by
 induction l generalizing i j with
 |nil=>cases h
 |cons q l ih=>
  obtain⟨a,b⟩:=q;rw[bD3]at h;by_cases e:k=a
  .rw[ip e]at h;cases h;subst e;rw[CI,kJ,ip rfl];rfl
  .rw[iN e]at h;have h1:=(Mw enc val (i:=i) h).1;rw[kJ,iN (fun c=>e c.symm),xY,xY,show p-j=(p-(j+1))+1 by omega,List.modify_succ_cons,ih h]
theorem Qn{l:List (κ×β)}{k:κ}(h:bD3 l k j=δ)(v):xY enc val i l++[⟨enc k,val v,i+l.length⟩]=xY enc val i (kJ l k v)/\(kJ l k v).length=l.length+1:=by
 induction l generalizing i j with
 |nil=>exact⟨rfl,rfl⟩
 |cons q l ih=>
  obtain⟨a,b⟩:=q;rw[bD3]at h;by_cases e:k=a
  .rw[ip e]at h;cases h
  .rw[iN e]at h;obtain⟨h1,h2⟩:=ih (i:=i+1) h;rw[kJ,iN (fun c=>e c.symm),xY,xY,bV,<-h1,aC,aC,h2];refine⟨?_,rfl⟩;congr 3;rw[show i+1+l.length=i+(l.length+1) by omega]
theorem UP{p:Nat}{l:List (κ×β)}{k:κ}{u:β}(h:bD3 l k j=ζ (p,u))(v):(kJ l k v).length=l.length:=by
 induction l generalizing j with
 |nil=>cases h
 |cons q l ih=>
  obtain⟨a,b⟩:=q;rw[bD3]at h;rw[kJ];by_cases e:k=a
  .rw[ip e.symm];rfl
  .rw[iN e]at h;rw[iN (fun c=>e c.symm),aC,ih h];rfl
theorem pm(i l p)(hp:p<l.length):(xY enc val i l).findIdx? (fun e=>(e.born:Int)==((i+p:Nat):Int))=ζ p:=by
 induction l generalizing i p with
 |nil=>exact absurd hp (Nat.not_lt_zero _)
 |cons q l ih=>
  obtain⟨a,b⟩:=q;rw[xY,List.findIdx?_cons];cases p with
  |zero=>simp
  |succ p=>
   have hn:(((i:Nat):Int)==((i+(p+1):Nat):Int))=ν:=by
    rw[beq_eq_false_iff_ne];omega
   have h1:=ih (i+1) p (by simpa using hp);rw[show i+(p+1)=i+1+p by omega]at hn|-;simp only[hn,aK,if_false,h1,yF]
theorem Is{α:Type}(P)(a:α)(w):fD P (pure a:Sem α) w=.ok a w:=rfl
structure It(P:cQ)(kt:cS)(enc:κ->χ):Prop where
 chk:∀(b:Bool)(k:κ)(w:η),(Am b 10000 kt (enc k)).run P w=.ok () w
 eq:∀(a b:κ)(w:η),(Op.equal kt (enc a) (enc b)).run P w=.ok (decide (a=b)) w
 und:∃d,(∀w,(CJ kt).run P w=.ok d w)/\∀a b,Instr.sameNow d (enc a) (enc b)=δ
 same:∀k,Pg 10000 (enc k) (enc k)=ι
variable{P:cQ}{kt:cS}{enc val}
theorem It.ask(h:It P kt enc)(k l i j w):(Instr.findAsking kt (enc k) (xY enc val i l) j).run P w=.ok ((bD3 l k j).map fun p=>(p.1,val p.2)) w:=by
 induction l generalizing i j with
 |nil=>rfl
 |cons q l ih=>
  obtain⟨a,b⟩:=q;rw[xY,Instr.findAsking,bD3];rw[mO,h.eq k a w];show fD P (if decide (k=a)=ι then _ else _) w=_;by_cases e:k=a
  .rw[decide_eq_true e,ip rfl,ip e];rfl
  .rw[decide_eq_false e,iN dD,iN e];exact ih (i+1) (j+1)
theorem It.find(h:It P kt enc)(k l w):(Instr.findKey kt (enc k) (xY enc val 0 l)).run P w=.ok ((bD3 l k 0).map fun p=>(p.1,val p.2)) w:=by
 obtain⟨d,h1,h2⟩:=h.und;unfold Instr.findKey;rw[mO,h1 w];show fD P (match St d (enc k) (xY enc val 0 l) 0 with |some r=>_|none=>_) w=_;cases l with
 |nil=>rfl
 |cons q l=>
  obtain⟨a,b⟩:=q;have e:St d (enc k) (xY enc val 0 ((a,b)::l)) 0=δ:=by
   rw[xY,St];simp only[h2]
  rw[e];exact h.ask k _ 0 0 w
theorem wC{b:Nat}{l:List (κ×β)}(h:w.heap[b]? =ζ (mS enc val l)):(getObj b).run P w=.ok (.map (xY enc val 0 l).toArray l.length) w:=by
 simp[getObj,fD,h,mS]
theorem GM{b:Nat}{l:List (κ×β)}(h:w.heap[b]? =ζ (mS enc val l))(o):(setObj b o).run P w=.ok () (w.putObj b o):=by
 simp[setObj,fD,h,mS,World.putObj]
variable{T E:cS}{zero:β}
theorem Iu(h:It P kt enc)(hT:∀w,(CJ T).run P w=.ok (.map kt E) w)(hz:∀w,(zk E).run P w=.ok (val zero) w){b:Nat}{l:List (κ×β)}(hb:w.heap[b]? =ζ (mS enc val l))(k c):
 (pT T (.map (ζ b)) (enc k) c).run P w=.ok (if c=ι then bT #[val ((mR l k).getD zero),ω (mR l k).isSome]else val ((mR l k).getD zero)) w:=by
 have hf:=h.find k l w (val:=val);have hg:=Qm l k 0;have hp:=@Is;rw[<-hg];generalize bD3 l k 0=r at *;cases r<;>cases c<;>simp[pT,mO,hT,vG,wC hb,h.chk,hf,hz,hp]
theorem SI(h:It P kt enc)(hT:∀w,(CJ T).run P w=.ok (.map kt E) w){b:Nat}{l:List (κ×β)}(hb:w.heap[b]? =ζ (mS enc val l))(k v):
 (DW T (.map (ζ b)) (enc k) (val v)).run P w=.ok () (w.putObj b (mS enc val (kJ l k v))):=by
 have hf:=h.find k l w (val:=val);have hp:=@Is;have hs:=fun o=>GM (P:=P) hb o;cases hr:bD3 l k 0 with
 |none=>
  rw[hr]at hf;obtain⟨h1,h2⟩:=Qn enc val (i:=0) hr v;rw[bD]at h1;simp only[DW,mO,hT,vG,wC hb,h.chk,hf,Option.map_none,hs,cE,h1];unfold mS;rw[h2]
 |some p=>
  obtain⟨p,u⟩:=p;rw[hr]at hf;obtain⟨-,h1⟩:=Mw enc val (i:=0) hr;have h2:=Ld enc val (i:=0) (v:=v) hr;rw[LW]at h1 h2;have h3:=h.same k;simp only[DW,mO,hT,vG,wC hb,h.chk,hf,yF,hs,bC,h1,bK,nz,h3,if_true,hp,Ic,h2];unfold mS;rw[UP hr]
theorem aa6(l:List (κ×β))(k:κ)(u v:β):kJ (kJ l k u) k v=kJ l k v:=by
 induction l with
 |nil=>rw[kJ,kJ,kJ,ip rfl]
 |cons q l ih=>
  obtain⟨a,b⟩:=q;rw[kJ,kJ];by_cases e:a=k
  .rw[ip e,ip e,kJ,ip rfl]
  .rw[iN e,iN e,kJ,iN e,ih]
theorem Qo{l:List (κ×β)}{k:κ}{u:β}{p:Nat}(h:bD3 l k i=ζ (p,u)):kJ l k u=l:=by
 induction l generalizing i with
 |nil=>cases h
 |cons q l ih=>
  obtain⟨a,b⟩:=q;rw[bD3]at h;rw[kJ];by_cases e:k=a
  .rw[ip e]at h;cases h;rw[ip e.symm,e]
  .rw[iN e]at h;rw[iN (fun c=>e c.symm),ih h]
theorem YU{l:List (κ×β)}{k:κ}(h:bD3 l k i=δ)(v):bD3 (kJ l k v) k i=ζ (i+l.length,v):=by
 induction l generalizing i with
 |nil=>rw[kJ,bD3,ip rfl];rfl
 |cons q l ih=>
  obtain⟨a,b⟩:=q;rw[bD3]at h;by_cases e:k=a
  .rw[ip e]at h;cases h
  .rw[iN e]at h;rw[kJ,iN (fun c=>e c.symm),bD3,iN e,ih h,aC];congr 2;omega
theorem aa7{l:List (κ×β)}{k:κ}{u:β}{p:Nat}(h:bD3 l k i=ζ (p,u)):p<i+l.length:=by
 induction l generalizing i with
 |nil=>cases h
 |cons q l ih=>
  obtain⟨a,b⟩:=q;rw[bD3]at h;rw[aC];by_cases e:k=a
  .rw[ip e]at h;cases h;omega
  .rw[iN e]at h;have:=ih h;omega
theorem UQ{l:List α}{p:Nat}{e:α}{f:α->α}(h:l[p]? =ζ e)(hf:f e=e):l.modify p f=l:=by
 apply Mo;intro i;rw[F9];split
 .rename_i hi;subst hi;rw[h];simp[hf]
 .simp
theorem ax3(h:It P kt enc)(hT:∀w,(CJ T).run P w=.ok (.map kt E) w)(hz:∀w,(zk E).run P w=.ok (val zero) w){b:Nat}{l:List (κ×β)}(hb:w.heap[b]? =ζ (mS enc val l))(k):
 ∃p:Nat,(Ph T (.map (ζ b)) (enc k)).run P w=.ok (bT #[val ((mR l k).getD zero),Υ Ξ p]) (w.putObj b (mS enc val (kJ l k ((mR l k).getD zero))))/\bD3 (kJ l k ((mR l k).getD zero)) k 0=ζ (p,(mR l k).getD zero):=by
 have hf:=h.find k l w (val:=val);have hp:=@Is;have hs:=fun o=>GM (P:=P) hb o;have hg:=Qm l k 0;cases hr:bD3 l k 0 with
 |none=>
  rw[hr]at hf hg;rw[<-hg];obtain⟨h1,h2⟩:=Qn enc val (i:=0) hr zero;rw[bD]at h1;refine⟨l.length,?_,by have:=YU hr zero;rwa[bD]at this⟩;simp only[Ph,mO,hT,vG,wC hb,h.chk,hf,Option.map_none,hs,hz,cE,h1,hp];unfold mS;show zl _ _=zl _ (w.putObj b (.map (xY enc val 0 (kJ l k zero)).toArray (kJ l k zero).length));rw[h2];rfl
 |some p=>
  obtain⟨p,u⟩:=p;rw[hr]at hf hg;obtain⟨-,h1⟩:=Mw enc val (i:=0) hr;rw[LW,bD]at h1;have h3:=h.same k;have h2:=UQ (f:=fun e=>{e with key:=enc k}) h1 rfl;rw[<-hg];refine⟨p,?_,by show bD3 (kJ l k u) k 0=_;rw[Qo hr,hr];rfl⟩;show _=zl (bT #[val u,Υ Ξ p]) (w.putObj b (mS enc val (kJ l k u)));rw[Qo hr];simp only[Ph,mO,hT,vG,wC hb,h.chk,hf,yF,hs,bC,h1,bK,nz,h3,if_true,hp,Ic,h2];rfl
theorem aa8{b:Nat}{l:List (κ×β)}(hb:w.heap[b]? =ζ (mS enc val l)){k:κ}{p:Nat}{u:β}(hk:bD3 l k 0=ζ (p,u))(v):
 (Instr.entryStore T (.map (ζ b)) (Υ Ξ p) (val v)).run P w=.ok () (w.putObj b (mS enc val (kJ l k v))):=by
 have hp:=@Is;have hs:=fun o=>GM (P:=P) hb o;have hlt:=aa7 hk;have h0:=pm enc val 0 l p oM;rw[bD]at h0;obtain⟨-,h1⟩:=Mw enc val (i:=0) hk;have h2:=Ld enc val (i:=0) (v:=v) hk;rw[LW]at h1 h2;have h4:(xY enc val 0 l).modify p (fun e=>{e with val:=val v})=(xY enc val 0 l).modify p (fun e=>{e with key:=enc k,val:=val v}):=by
  apply Mo;intro i;rw[F9,F9];split
  .rename_i hi;subst hi;rw[h1];rfl
  .rfl
 have ha:(asInt (Υ Ξ (p:Int))).run P w=.ok (p:Int) w:=rfl;simp only[Instr.entryStore,mO,vG,wC hb,ha,List.findIdx?_toArray,h0,hs,Ic,h4,h2];unfold mS;rw[UP hk]
end
end
section
structure Sg where
 side:Int
 up:Bool
 line:Int
 a:Int
 b:Int
deriving Inhabited
def Sg.st(s:Sg):Int×Int:=if s.up=ι then(s.line,s.a)else(s.a,s.line)
def Sg.en(s:Sg):Int×Int:=if s.up=ι then(s.line,s.b)else(s.b,s.line)
def tD(a b i:Int):Int:=if a<=i/\i<b then 1 else if b<=i/\i<a then -1 else 0
def JM(s:Sg)(i k:Int):Int:=if s.up=ι/\i<s.line then tD s.a s.b k else 0
def leS(s:Sg)(i k:Int):Int:=if s.up=ν/\k<s.line then tD s.a s.b i else 0
def pn(p:Int×Int)(i k:Int):Int:=if i<p.1/\k<p.2 then 1 else 0
def lF(f:Sg->Int):List Sg->Int
 |[]=>0
 |s::l=>f s+lF f l
theorem pq(s i k):pn s.en i k-pn s.st i k=JM s i k+leS s i k:=by
 obtain⟨sd,up,line,a,b⟩:=s;cases up<;>simp only[pn,JM,leS,Sg.st,Sg.en,tD,if_true,if_false,aK,true_and,false_and,reduceCtorEq]<;>(repeat' split)<;>omega
theorem AC(f g:Sg->Int)(l):lF (fun s=>f s+g s) l=lF f l+lF g l:=by
 induction l with
 |nil=>rfl
 |cons s l ih=>simp only[lF,ih];omega
theorem fi(f g:Sg->Int)(l):lF (fun s=>f s-g s) l=lF f l-lF g l:=by
 induction l with
 |nil=>rfl
 |cons s l ih=>simp only[lF,ih];omega
theorem jW{f g:Sg->Int}{l:List Sg}(h:∀s∈l,f s=g s):lF f l=lF g l:=by
 induction l with
 |nil=>rfl
 |cons s l ih=>rw[lF,lF,h s (bO ..),ih fun t ht=>h t (cC _ ht)]
theorem zW(f:Sg->Int)(l m):lF f (l++m)=lF f l+lF f m:=by
 induction l with
 |nil=>simp[lF]
 |cons s l ih=>simp only[bV,lF,ih];omega
theorem BB{f:Sg->Int}{l:List Sg}(h:∀s∈l,f s=0):lF f l=0:=by
 induction l with
 |nil=>rfl
 |cons s l ih=>rw[lF,h s (bO ..),ih fun t ht=>h t (cC _ ht)];rfl
theorem fj{f:Sg->Int}{l:List Sg}(h:0<lF f l):∃s∈l,0<f s:=by
 induction l with
 |nil=>simp[lF]at h
 |cons s l ih=>
  by_cases h1:0<f s
  .exact⟨s,bO ..,h1⟩
  .obtain⟨t,ht,h2⟩:=ih (by simp only[lF]at h;omega);exact⟨t,cC _ ht,h2⟩
theorem fk{f:Sg->Int}{l:List Sg}(h:lF f l<0):∃s∈l,f s<0:=by
 induction l with
 |nil=>simp[lF]at h
 |cons s l ih=>
  by_cases h1:f s<0
  .exact⟨s,bO ..,h1⟩
  .obtain⟨t,ht,h2⟩:=ih (by simp only[lF]at h;omega);exact⟨t,cC _ ht,h2⟩
def oZ(l:List Sg):Prop:=∀j,j<l.length->(l.getD j Γ).en=(l.getD ((j+1)%l.length) Γ).st
def dP(f:Nat->Int):Nat->Int
 |0=>0
 |n+1=>dP f n+f n
theorem dI{f g:Nat->Int}{n:Nat}(h:∀j,j<n->f j=g j):dP f n=dP g n:=by
 induction n with
 |zero=>rfl
 |succ n ih=>rw[dP,dP,h n oM,ih fun j hj=>h j oM]
theorem sO(f g:Nat->Int)(n):dP (fun j=>f j-g j) n=dP f n-dP g n:=by
 induction n with
 |zero=>rfl
 |succ n ih=>simp only[dP,ih];omega
theorem CO(f:Nat->Int)(n):dP (fun j=>f (j+1)) n=dP f (n+1)-f 0:=by
 induction n with
 |zero=>simp[dP]
 |succ n ih=>rw[dP,ih,dP];simp only[dP];omega
theorem BC(f:Nat->Int)(n):dP (fun j=>f ((j+1)%n)) n=dP f n:=by
 cases n with
 |zero=>rfl
 |succ n=>
  rw[dP,mY,dI (g:=fun j=>f (j+1)) fun j hj=>by rw[aT oM],CO];simp only[dP];omega
theorem nB(f:Sg->Int)(l):lF f l=dP (fun j=>f (l.getD j Γ)) l.length:=by
 induction l with
 |nil=>rfl
 |cons s l ih=>
  rw[lF,ih,aC];have:=CO (fun j=>f ((s::l).getD j Γ)) l.length;simp only[jS,List.getD_cons_zero]at this;omega
theorem bz4{l:List Sg}(h:oZ l)(i k):lF (JM · i k) l+lF (leS · i k) l=0:=by
 rw [<- AC,<- jW fun s _=>pq s i k,fi,nB,nB,dI (f:=fun j=>pn (l.getD j Γ).en i k) (g:=fun j=>(fun j=>pn (l.getD j Γ).st i k) ((j+1) % l.length)) fun j hj=>by rw [h j hj],BC (fun j=>pn (l.getD j Γ).st i k)];omega
theorem GN{ls:List (List Sg)}(h:∀ l∈ls,oZ l)(i k):lF (JM · i k) ls.flatten+lF (leS · i k) ls.flatten=0:=by
 induction ls with
 | nil=>rfl
 | cons l ls ih=>
  rw [List.flatten_cons,zW,zW];have h1:=bz4 (h l (bO ..)) i k;have h2:=ih fun m hm=>h m (cC _ hm);omega
def bF (E:List Sg) (i k:Int):Int:=lF (JM · i k) E
def dK(X Y:Int)(E:List Sg)(i k:Int):Bool:=decide (0<=i/\0<=k/\i+1<X/\k+1<Y/\0<bF E i k)
def iT(X Y:Int)(s:Sg):Prop:=0<=s.line/\0<=s.a/\0<=s.b/\(s.up=ι->s.line<X/\s.a<Y/\s.b<Y)/\(s.up=ν->s.line<Y/\s.a<X/\s.b<X)
def A6(s:Sg)(x y:Int)(d:Nat):Prop:=
 match d with
 |0=>s.up=ν/\s.line=y/\s.a<=x/\x<s.b
 |1=>s.up=ι/\s.line=x/\s.a<=y/\y<s.b
 |2=>s.up=ν/\s.line=y/\s.b<=x-1/\x-1<s.a
 |_=>s.up=ι/\s.line=x/\s.b<=y-1/\y-1<s.a
def pv(c:Int->Int->Bool)(x y:Int)(d:Nat):Bool:=match d with |0=>c x y|1=>c (x-1) y|2=>c (x-1) (y-1)|_=>c x (y-1)
def rgt(c:Int->Int->Bool)(x y:Int)(d:Nat):Bool:=match d with |0=>c x (y-1)|1=>c x y|2=>c (x-1) y|_=>c (x-1) (y-1)
def bor(c:Int->Int->Bool)(x y:Int)(d:Nat):Bool:=pv c x y d&& !rgt c x y d
theorem Fo(E i k):bF E (i-1) k=bF E i k+lF (fun s=>if s.up=ι/\s.line=i then tD s.a s.b k else 0) E:=by
 unfold bF;rw[<-AC];refine jW fun s _=>?_;obtain⟨sd,up,line,a,b⟩:=s;cases up<;>simp only[JM,aK,true_and,false_and,if_false]<;>(repeat' split)<;>omega
theorem SJ{ls:List (List Sg)}(h:∀ l∈ls,oZ l)(i k):bF ls.flatten i k=bF ls.flatten i (k - 1)+lF (fun s=>if s.up=ν/\s.line=k then tD s.a s.b i else 0) ls.flatten:=by
 have h1:=GN h i k;have h2:=GN h i (k - 1);have h3:lF (leS · i (k - 1)) ls.flatten=lF (leS · i k) ls.flatten+lF (fun s=>if s.up=ν/\s.line=k then tD s.a s.b i else 0) ls.flatten:=by
  rw [<- AC];refine jW fun s _=>?_;obtain⟨sd,up,line,a,b⟩:=s;cases up <;> simp only [leS,reduceCtorEq,true_and,false_and,if_false] <;> (repeat' split) <;> omega
 unfold bF;omega
theorem fl{a b i:Int}(h:0<tD a b i):a<=i/\i<b:=by
 unfold tD at h;split at h
 .assumption
 .split at h<;>omega
theorem fw{a b i:Int}(h:tD a b i<0):b<=i/\i<a:=by
 unfold tD at h;split at h
 .omega
 .split at h
  .assumption
  .omega
theorem Na{E:List Sg}(hg:∀s∈E,iT X Y s){i k:Int}(h:X<=i+1\/Y<=k+1\/k<0):bF E i k=0:=by
 refine BB fun s hs=>?_;obtain⟨h1,h2,h3,h4,-⟩:=hg s hs;unfold JM;split
 .rename_i hu;obtain⟨q1,q2,q3⟩:=h4 hu.1;unfold tD;(repeat' split)<;>omega
 .rfl
theorem Iv{ls:List (List Sg)}(hr:∀ l∈ls,oZ l)(hg:∀ s∈ls.flatten,iT X Y s){i:Int}(hi:i < 0)(k):bF ls.flatten i k=0:=by
 have h1:=GN hr i k;have h2:lF (leS · i k) ls.flatten=0:=by
  refine BB fun s hs=>?_;obtain⟨q1,q2,q3,-,-⟩:=hg s hs;unfold leS;split
  .unfold tD;(repeat' split) <;> omega
  .rfl
 unfold bF;omega
theorem bw1{E:List Sg}{i k:Int}(h:dK X Y E i k=ι):0<=i/\0<=k/\i+1<X/\k+1<Y/\0<bF E i k:=by unfold dK at h;exact of_decide_eq_true h
theorem rS{ls:List (List Sg)}(hr:∀l∈ls,oZ l)(hg:∀s∈ls.flatten,iT X Y s){i k:Int}(h:dK X Y ls.flatten i k=ν):bF ls.flatten i k<=0:=by
 unfold dK at h;have h:=of_decide_eq_false h;by_cases h1:i<0
 .rw[Iv hr hg h1];exact AV _
 .by_cases h2:X<=i+1\/Y<=k+1\/k<0
  .rw[Na hg h2];exact AV _
  .omega
theorem YW{ls:List (List Sg)}(hr:∀l∈ls,oZ l)(hg:∀s∈ls.flatten,iT X Y s){x y:Int}{d:Nat}(h:bor (dK X Y ls.flatten) x y d=ι):∃s∈ls.flatten,A6 s x y d:=by
 unfold bor at h;rw[aI,bX]at h;obtain⟨hl,hn⟩:=h;match d,hl,hn with
 |0,hl,hn=>
  obtain⟨-,-,-,-,h1⟩:=bw1 hl;have h2:=rS hr hg hn;have h3:=SJ hr x y;obtain⟨s,hs,h4⟩:=fj (f:=fun s=>if s.up=ν/\s.line=y then tD s.a s.b x else 0) (l:=ls.flatten) oM;split at h4
  .rename_i hu;exact⟨s,hs,hu.1,hu.2,fl h4⟩
  .omega
 |1,hl,hn=>
  obtain⟨-,-,-,-,h1⟩:=bw1 hl;have h2:=rS hr hg hn;have h3:=Fo ls.flatten x y;obtain⟨s,hs,h4⟩:=fj (f:=fun s=>if s.up=ι/\s.line=x then tD s.a s.b y else 0) (l:=ls.flatten) oM;split at h4
  .rename_i hu;exact⟨s,hs,hu.1,hu.2,fl h4⟩
  .omega
 |2,hl,hn=>
  obtain⟨-,-,-,-,h1⟩:=bw1 hl;have h2:=rS hr hg hn;have h3:=SJ hr (x-1) y;obtain⟨s,hs,h4⟩:=fk (f:=fun s=>if s.up=ν/\s.line=y then tD s.a s.b (x-1)else 0) (l:=ls.flatten) oM;split at h4
  .rename_i hu;exact⟨s,hs,hu.1,hu.2,fw h4⟩
  .omega
 |d+3,hl,hn=>
  obtain⟨-,-,-,-,h1⟩:=bw1 hl;have h2:=rS hr hg hn;have h3:=Fo ls.flatten x (y-1);obtain⟨s,hs,h4⟩:=fk (f:=fun s=>if s.up=ι/\s.line=x then tD s.a s.b (y-1)else 0) (l:=ls.flatten) oM;split at h4
  .rename_i hu;exact⟨s,hs,hu.1,hu.2,fw h4⟩
  .omega
structure Wy where
 x:Int
 y:Int
 d:Nat
deriving Inhabited,DecidableEq
def fU(x:Int)(d:Nat):Int:=match d with |0=>x+1|2=>x-1|_=>x
def fV(y:Int)(d:Nat):Int:=match d with |1=>y+1|3=>y-1|_=>y
def eX(c:Int->Int->Bool)(w:Wy):Bool:=decide (w.d<4)&&bor c w.x w.y w.d
def eY(c:Int->Int->Bool)(w:Wy):Wy:=
 let x:=fU w.x w.d
 let y:=fV w.y w.d
 if bor c x y ((w.d+1)%4)=ι then⟨x,y,(w.d+1)%4⟩else if bor c x y (w.d%4)=ι then⟨x,y,w.d%4⟩else if bor c x y ((w.d+3)%4)=ι then⟨x,y,(w.d+3)%4⟩else w
def bD4(a b e f:Bool)(d:Nat):Bool:=match d with |0=>b&& !e|1=>e&& !f|2=>f&& !a|_=>a&& !b
def bD5(a b e f:Bool)(d:Nat):Bool:=match d with |0=>a&& !f|1=>b&& !a|2=>e&& !b|_=>f&& !e
def oU(a b e f:Bool)(d:Nat):Nat:=if bD5 a b e f ((d+1)%4)=ι then(d+1)%4 else if bD5 a b e f (d%4)=ι then d%4 else if bD5 a b e f ((d+3)%4)=ι then(d+3)%4 else 4
theorem aa9:∀a b e f:Bool,∀d:Fin 4,bD4 a b e f d=ι->oU a b e f d<4/\bD5 a b e f (oU a b e f d)=ι:=dD
theorem pw:∀a b e f:Bool,∀d d':Fin 4,bD4 a b e f d=ι->bD4 a b e f d'=ι->oU a b e f d=oU a b e f d'->d=d':=dD
theorem BD(c:Int->Int->Bool)(x y d):bor c x y d=bD5 (c x y) (c (x-1) y) (c (x-1) (y-1)) (c x (y-1)) d:=by
 unfold bor pv rgt bD5;match d with
 |0=>rfl
 |1=>rfl
 |2=>rfl
 |d+3=>rfl
theorem BE(c:Int->Int->Bool)(x y){d:Nat}(hd:d<4):bor c x y d=bD4 (c (fU x d) (fV y d)) (c (fU x d-1) (fV y d)) (c (fU x d-1) (fV y d-1)) (c (fU x d) (fV y d-1)) d:=by
 unfold bor pv rgt bD4 fU fV;match d,hd with
 |0,_=>simp only[show x+1-1=x by omega]
 |1,_=>simp only[show y+1-1=y by omega]
 |2,_=>rfl
 |3,_=>rfl
theorem rT{c:Int->Int->Bool}{w:Wy}(h:eX c w=ι):
 ∃t,t<4/\t=oU (c (fU w.x w.d) (fV w.y w.d)) (c (fU w.x w.d-1) (fV w.y w.d)) (c (fU w.x w.d-1) (fV w.y w.d-1)) (c (fU w.x w.d) (fV w.y w.d-1)) w.d/\
  eY c w=⟨fU w.x w.d,fV w.y w.d,t⟩/\bor c (fU w.x w.d) (fV w.y w.d) t=ι:=by
 unfold eX at h;rw[aI,decide_eq_true_eq]at h;obtain⟨hd,hb⟩:=h;rw[BE c w.x w.y hd]at hb;obtain⟨h1,h2⟩:=aa9 _ _ _ _ ⟨w.d,hd⟩ hb;refine⟨_,h1,rfl,?_,by rw[BD];exact h2⟩;dsimp only at h1 h2|-;unfold eY;dsimp only;simp only[BD];unfold oU at h1|-;split
 .rfl
 .split
  .rfl
  .split
   .rfl
   .rename_i q1 q2 q3;rw[iN q1,iN q2,iN q3]at h1;omega
theorem Mx{c:Int->Int->Bool}{w:Wy}(h:eX c w=ι):eX c (eY c w)=ι:=by
 obtain⟨t,h1,-,h2,h3⟩:=rT h;rw[h2];unfold eX;rw[aI,decide_eq_true_eq];exact⟨h1,h3⟩
theorem ax4{c:Int->Int->Bool}{v w:Wy}(hv:eX c v=ι)(hw:eX c w=ι)(h:eY c v=eY c w):v=w:=by
 obtain⟨t,h1,h2,h3,-⟩:=rT hv;obtain⟨u,k1,k2,k3,-⟩:=rT hw;rw[h3,k3]at h;injection h with ex ey et;have dv:v.d<4/\bor c v.x v.y v.d=ι:=by unfold eX at hv;rwa[aI,decide_eq_true_eq]at hv
 have dw:w.d<4/\bor c w.x w.y w.d=ι:=by unfold eX at hw;rwa[aI,decide_eq_true_eq]at hw
 have bv:=dv.2;have bw:=dw.2;rw[BE c _ _ dv.1]at bv;rw[BE c _ _ dw.1]at bw;rw[h2,k2,<-ex,<-ey]at et;rw[<-ex,<-ey]at bw;have ed:=pw _ _ _ _ ⟨v.d,dv.1⟩ ⟨w.d,dw.1⟩ bv bw et;have ed:v.d=w.d:=congrArg Fin.val ed;obtain⟨x,y,d⟩:=v;obtain⟨x',y',d'⟩:=w;dsimp only at ed ex ey;subst ed;have hd:=dv.1;dsimp only at hd;unfold fU at ex;unfold fV at ey;have:x=x'/\y=y':=by
  match d,hd,ex,ey with
  |0,_,ex,ey=>exact⟨by have:x+1=x'+1:=ex;omega,ey⟩
  |1,_,ex,ey=>exact⟨ex,by have:y+1=y'+1:=ey;omega⟩
  |2,_,ex,ey=>exact⟨by have:x-1=x'-1:=ex;omega,ey⟩
  |3,_,ex,ey=>exact⟨ex,by have:y-1=y'-1:=ey;omega⟩
 rw[this.1,this.2]
def fW{α:Type}(f:α->α):Nat->α->α
 |0,w=>w
 |k+1,w=>f (fW f k w)
theorem mM(f:α->α)(j k)(w:α):fW f (j+k) w=fW f j (fW f k w):=by
 induction j with
 |zero=>rw[bD];rfl
 |succ j ih=>rw[show j+1+k=(j+k)+1 by omega,fW,ih];rfl
theorem Fp[DecidableEq α]:∀{l m:List α},l.Nodup->(∀x∈l,x∈m)->l.length<=m.length
 |[],_,_,_=>aP _
 |x::l,m,h,hs=>by
  rw[List.nodup_cons]at h
  have h1:=Fp (m:=m.erase x) h.2 fun y hy=>(List.mem_erase_of_ne (fun e=>h.1 (by rw[<-e];exact hy))).2 (hs y (cC _ hy))
  have h2:=List.length_erase_of_mem (hs x (bO ..))
  have h3:=List.length_pos_of_mem (hs x (bO ..))
  rw[aC]
  omega
theorem ab0[DecidableEq α]{f:α->α}{S:List α}(hs:∀w∈S,f w∈S)(hi:∀v∈S,∀w∈S,f v=f w->v=w){w:α}(hw:w∈S):∃k,0<k/\k<=S.length/\fW f k w=w:=by
 have hm:∀k,fW f k w∈S:=fun k=>by
  induction k with
  |zero=>exact hw
  |succ k ih=>exact hs _ ih
 have hp:∃i j,i<j/\j<=S.length/\fW f i w=fW f j w:=by
  apply aG;intro hn;have hne:∀i j,i<j->j<=S.length->fW f i w≠fW f j w:=fun i j h1 h2 h3=>hn ⟨i,j,h1,h2,h3⟩;have hnd:((cI (S.length+1)).map fun k=>fW f k w).Nodup:=by
   rw[List.nodup_iff_pairwise_ne,List.pairwise_map];refine zm ?_ (List.pairwise_lt_range (n:=S.length+1));intro i j _ hj Le;rw[List.mem_range]at hj;exact hne i j Le oM
  have SK:∀x∈((cI (S.length+1)).map fun k=>fW f k w),x∈S:=by
   intro x hx;rw[List.mem_map]at hx;obtain⟨k,-,rfl⟩:=hx;exact hm k
  have:=Fp hnd SK;rw[υ,List.length_range]at this;omega
 obtain⟨i,j,h1,h2,h3⟩:=hp;have back:∀i j,i<=j->fW f i w=fW f j w->fW f (j-i) w=w:=by
  intro i;induction i with
  |zero=>intro j _ h;rw[LW,<-h];rfl
  |succ i ih=>
   intro j hj h;have e:j=(j-1)+1:=oM;rw[e]at h;have:=ih (j-1) oM (hi _ (hm i) _ (hm (j-1)) h);rwa[show j-(i+1)=j-1-i by omega]
 exact⟨j-i,oM,oM,back i j (fM h1) h3⟩
end
section
open Go Go.RowKit Go.Lib
theorem ax5(x y d w):(Am ι 10000 130 (bQ #[Υ Ξ x,Υ Ξ y,Υ Ξ d])).run γ w=.ok () w:=kF
theorem ab1(x y w):(Am ι 10000 128 (bQ #[Υ Ξ x,Υ Ξ y])).run γ w=.ok () w:=kF
theorem SN(w):(CJ 114).run γ w=.ok (.map 130 3) w:=kF
theorem ab2(w):(CJ 115).run γ w=.ok (.map 128 4) w:=kF
theorem ab3(w):(CJ 123).run γ w=.ok (.map 130 4) w:=kF
theorem ab4(w):(zk 3).run γ w=.ok (Υ Ξ 0) w:=kF
theorem aM3(w):(zk 4).run γ w=.ok (ω ν) w:=kF
def kW(v:Wy):χ:=bQ #[Υ Ξ v.x,Υ Ξ v.y,Υ Ξ v.d]
def kS(p:Int×Int):χ:=bQ #[Υ Ξ p.1,Υ Ξ p.2]
def vI(n:Int):χ:=Υ Ξ n
def vB(b:Bool):χ:=ω b
theorem ab5(n a b c e w):(Fi (n+2) 128 (bQ #[Υ Ξ a,Υ Ξ b]) (bQ #[Υ Ξ c,Υ Ξ e])).run γ w=.ok (a==c&&b==e) w:=by
 have u3:=dB;have a3:=jF;have z3:=gW;have hS:Tryz.prog.underlying 128=ζ (.struct (Tryz.prog.fieldsOf 128)):=kF;have hp:Tryz.prog.stoodInHeld 128=ν:=kF;rw[show n+2=(n+1)+1 from rfl,run_equalIn_agg w (n+1) 128 _ _ hS hp];simp only[Jn,underlying128];go_simp;by_cases h1:a=c<;>by_cases h2:b=e<;>simp[h1,h2]
theorem bb0(n a b d a' b' d' w):(Fi (n+3) 130 (bQ #[Υ Ξ a,Υ Ξ b,Υ Ξ d]) (bQ #[Υ Ξ a',Υ Ξ b',Υ Ξ d'])).run γ w=.ok ((a==a'&&b==b')&&d==d') w:=by
 have u3:=dB;have a3:=jF;have z3:=gW;have a4:=isAgg128;have z4:=sizeOf128;have hS:Tryz.prog.underlying 130=ζ (.struct (Tryz.prog.fieldsOf 130)):=kF;have hp:Tryz.prog.stoodInHeld 130=ν:=kF;have he:=fun a b c e w=>ab5 n a b c e w;rw[show n+3=(n+2)+1 from rfl,run_equalIn_agg w (n+2) 130 _ _ hS hp];simp only[Jn,underlying130];go_simp;by_cases h1:a=a'<;>by_cases h2:b=b'<;>by_cases h3:d=d'<;>simp[h1,h2,h3]
theorem aM4:It γ 128 kS:={
 chk b k w:=by
  obtain⟨x,y⟩:=k
  cases b
  .have:∀x y:Int,(Am ν 10000 128 (bQ #[Υ Ξ x,Υ Ξ y])).run γ w=.ok () w:=fun x y=>kF
   exact this x y
  .exact ab1 x y w
 eq a b w:=by
  obtain⟨x,y⟩:=a
  obtain⟨x',y'⟩:=b
  refine(ab5 9998 x y x' y' w).trans ?_
  congr 1
  by_cases h1:x=x'<;>by_cases h2:y=y'<;>simp[h1,h2]
 und:=⟨.struct (Tryz.prog.fieldsOf 128),fun w=>kF,fun _ _=>rfl⟩
 same k:=by
  obtain⟨x,y⟩:=k
  show(2==2&&List.all [_,_] _)=ι
  simp[Pg]}
theorem Qp:It γ 130 kW:={
 chk b k w:=by
  obtain⟨x,y,d⟩:=k
  cases b
  .have:∀x y d:Int,(Am ν 10000 130 (bQ #[Υ Ξ x,Υ Ξ y,Υ Ξ d])).run γ w=.ok () w:=fun x y d=>kF
   exact this x y d
  .exact ax5 x y d w
 eq a b w:=by
  obtain⟨x,y,d⟩:=a
  obtain⟨x',y',d'⟩:=b
  refine(bb0 9997 x y d x' y' d' w).trans ?_
  congr 1
  rw[oC,decide_eq_true_eq,Wy.mk.injEq]
  simp only[aI,beq_iff_eq]
  constructor
  .rintro⟨⟨h1,h2⟩,h3⟩;exact⟨h1,h2,oM⟩
  .rintro⟨h1,h2,h3⟩;exact⟨⟨h1,h2⟩,oM⟩
 und:=⟨.struct (Tryz.prog.fieldsOf 130),fun w=>kF,fun _ _=>rfl⟩
 same k:=by
  obtain⟨x,y,d⟩:=k
  show(3==3&&List.all [_,_,_] _)=ι
  simp[Pg]}
end
section
open Go.Shelf
def Tryz.laysM171_ren:iG:=⟨fun |171=>102|243=>151|246=>191|283=>218|284=>219|285=>220|286=>221|129=>174|317=>249|318=>250|319=>251|320=>252|337=>274|338=>275|n=>n,fun |3=>3|9=>9|2=>2|4=>4|171=>296|0=>0|53=>248|37=>298|5=>5|173=>299|212=>317|51=>246|20=>20|213=>318|46=>176|232=>356|233=>357|n=>n,fun |17=>1|18=>5|19=>6|n=>n⟩
theorem Tryz.laysM171:Go.Proofs.LaysM.n171 γ Tryz.laysM171_ren:={
 mixed:=kF
 f129:=zf dh
 f171:=zf func102
 f243:=zf func151
 f246:=zf func191
 f283:=zf func218
 f284:=zf func219
 f285:=zf func220
 f286:=zf func221
 f317:=zf func249
 f318:=zf func250
 f319:=zf func251
 f320:=zf func252
 f337:=zf func274
 f338:=zf func275
 t0:=pK
 a0:=Aj
 z0:=xT
 v0:=rK
 t2:=underlying2
 a2:=isAgg2
 z2:=sizeOf2
 v2:=zeroValue2
 t3:=dB
 a3:=jF
 z3:=gW
 v3:=gV
 t4:=eW
 a4:=lK
 z4:=jR
 v4:=gJ
 t5:=pG
 a5:=MY
 z5:=KU
 v5:=DZ
 t9:=jG
 a9:=qH
 z9:=oN
 v9:=mB
 t20:=Mp
 a20:=di
 z20:=XT
 v20:=OR
 t37:=zo
 a37:=isAgg298
 z37:=sizeOf298
 v37:=zeroValue298
 t46:=Ay
 a46:=Ik
 z46:=Ga
 v46:=Bp
 t51:=Jo
 a51:=Ue
 z51:=Qf
 v51:=KV
 t53:=zp
 a53:=isAgg248
 z53:=sizeOf248
 v53:=zeroValue248
 t171:=zr
 a171:=isAgg296
 z171:=sizeOf296
 v171:=zeroValue296
 t173:=zu
 a173:=isAgg299
 z173:=sizeOf299
 v173:=zeroValue299
 t212:=zw
 a212:=isAgg317
 z212:=sizeOf317
 v212:=zeroValue317
 t213:=zx
 a213:=isAgg318
 z213:=sizeOf318
 t232:=zy
 a232:=isAgg356
 z232:=sizeOf356
 v232:=zeroValue356
 t233:=underlying357
 a233:=isAgg357
 z233:=sizeOf357
 v233:=zeroValue357
 g17:=kF
 g18:=kF
 g19:=kF
 i0:=kF
 i2:=kF
 i3:=kF
 i4:=kF
 i5:=kF
 i9:=kF
 i20:=kF
 i37:=kF
 i46:=kF
 i51:=kF
 i53:=kF
 i171:=kF
 i173:=kF
 i212:=kF
 i232:=kF
 i233:=kF
 m17:=kF
 m18:=kF
 m19:=by kernel_rfl}
def Tryz.lays172_ren:iG:=⟨fun |172=>213|244=>244|245=>245|247=>269|279=>270|280=>271|281=>272|282=>273|287=>288|316=>289|171=>102|205=>290|321=>300|322=>301|243=>151|246=>191|283=>218|284=>219|285=>220|286=>221|129=>174|317=>249|318=>250|319=>251|320=>252|337=>274|338=>275|n=>n,fun |9=>9|3=>3|75=>290|76=>291|4=>4|5=>5|167=>335|37=>298|0=>0|85=>336|2=>2|168=>338|53=>248|175=>351|46=>176|210=>354|127=>345|145=>370|143=>368|21=>21|171=>296|173=>299|212=>317|51=>246|20=>20|213=>318|232=>356|233=>357|80=>324|n=>n,fun |15=>3|16=>4|17=>1|18=>5|19=>6|n=>n⟩
theorem Tryz.lays172:Go.Proofs.Lays.n172 γ Tryz.lays172_ren:={
 mixed:=kF
 f129:=zf dh
 f171:=zf func102
 f172:=zf func213
 f205:=zf func290
 f243:=zf func151
 f244:=zf func244
 f245:=zf func245
 f246:=zf func191
 f247:=zf func269
 f279:=zf func270
 f280:=zf func271
 f281:=zf func272
 f282:=zf func273
 f283:=zf func218
 f284:=zf func219
 f285:=zf func220
 f286:=zf func221
 f287:=zf func288
 f316:=zf func289
 f317:=zf func249
 f318:=zf func250
 f319:=zf func251
 f320:=zf func252
 f321:=zf func300
 f322:=zf func301
 f337:=zf func274
 f338:=zf func275
 t0:=pK
 a0:=Aj
 z0:=xT
 v0:=rK
 t2:=underlying2
 a2:=isAgg2
 z2:=sizeOf2
 v2:=zeroValue2
 t3:=dB
 a3:=jF
 z3:=gW
 v3:=gV
 t4:=eW
 a4:=lK
 z4:=jR
 v4:=gJ
 t5:=pG
 a5:=MY
 z5:=KU
 v5:=DZ
 t9:=jG
 a9:=qH
 z9:=oN
 v9:=mB
 t20:=Mp
 a20:=di
 z20:=XT
 v20:=OR
 t21:=underlying21
 a21:=isAgg21
 z21:=sizeOf21
 v21:=zeroValue21
 t37:=zo
 a37:=isAgg298
 z37:=sizeOf298
 v37:=zeroValue298
 t46:=Ay
 a46:=Ik
 z46:=Ga
 v46:=Bp
 t51:=Jo
 a51:=Ue
 z51:=Qf
 v51:=KV
 t53:=zp
 a53:=isAgg248
 z53:=sizeOf248
 v53:=zeroValue248
 t75:=underlying290
 a75:=isAgg290
 z75:=sizeOf290
 v75:=zeroValue290
 t76:=underlying291
 a76:=isAgg291
 z76:=sizeOf291
 v76:=zeroValue291
 t85:=underlying336
 a85:=isAgg336
 z85:=sizeOf336
 v85:=zeroValue336
 t127:=underlying345
 a127:=isAgg345
 z127:=sizeOf345
 v127:=zeroValue345
 t143:=underlying368
 a143:=isAgg368
 z143:=sizeOf368
 v143:=zeroValue368
 t145:=underlying370
 a145:=isAgg370
 z145:=sizeOf370
 v145:=zeroValue370
 t167:=underlying335
 a167:=isAgg335
 z167:=sizeOf335
 v167:=zeroValue335
 t168:=underlying338
 a168:=isAgg338
 z168:=sizeOf338
 v168:=zeroValue338
 t171:=zr
 a171:=isAgg296
 z171:=sizeOf296
 v171:=zeroValue296
 t173:=zu
 a173:=isAgg299
 z173:=sizeOf299
 v173:=zeroValue299
 t175:=underlying351
 a175:=isAgg351
 z175:=sizeOf351
 v175:=zeroValue351
 t210:=underlying354
 a210:=isAgg354
 z210:=sizeOf354
 v210:=zeroValue354
 t212:=zw
 a212:=isAgg317
 z212:=sizeOf317
 v212:=zeroValue317
 t213:=zx
 a213:=isAgg318
 z213:=sizeOf318
 t232:=zy
 a232:=isAgg356
 z232:=sizeOf356
 v232:=zeroValue356
 t233:=underlying357
 a233:=isAgg357
 z233:=sizeOf357
 v233:=zeroValue357
 g15:=kF
 g16:=kF
 g17:=kF
 g18:=kF
 g19:=by kernel_rfl}
def Tryz.lays101_ren:iG:=⟨fun |101=>90|208=>137|206=>159|n=>n,fun |9=>9|4=>4|3=>3|n=>n,fun |n=>n⟩
theorem Tryz.lays101:Go.Proofs.Lays.n101 γ Tryz.lays101_ren:={
 mixed:=kF
 f101:=zf func90
 f206:=zf XU
 f208:=zf func137
 t3:=dB
 a3:=jF
 z3:=gW
 v3:=gV
 t4:=eW
 a4:=lK
 z4:=jR
 v4:=gJ
 t9:=jG
 a9:=qH
 z9:=oN
 v9:=mB}
def Tryz.lays99_ren:iG:=⟨fun |99=>111|206=>159|n=>n,fun |9=>9|4=>4|3=>3|n=>n,fun |n=>n⟩
theorem Tryz.lays99:Go.Proofs.Lays.n99 γ Tryz.lays99_ren:={
 mixed:=kF
 f99:=zf func111
 f206:=zf XU
 t3:=dB
 a3:=jF
 z3:=gW
 v3:=gV
 t4:=eW
 a4:=lK
 z4:=jR
 v4:=gJ
 t9:=jG
 a9:=qH
 z9:=oN
 v9:=mB}
def Tryz.lays103_ren:iG:=⟨fun |103=>192|210=>222|206=>159|n=>n,fun |9=>9|4=>4|24=>269|3=>3|n=>n,fun |n=>n⟩
theorem Tryz.lays103:Go.Proofs.Lays.n103 γ Tryz.lays103_ren:={
 mixed:=kF
 f103:=zf func192
 f206:=zf XU
 f210:=zf func222
 t3:=dB
 a3:=jF
 z3:=gW
 v3:=gV
 t4:=eW
 a4:=lK
 z4:=jR
 v4:=gJ
 t9:=jG
 a9:=qH
 z9:=oN
 v9:=mB
 t24:=underlying269
 a24:=isAgg269
 z24:=sizeOf269
 v24:=zeroValue269}
def Tryz.lays122_ren:iG:=⟨fun |122=>127|215=>176|n=>n,fun |3=>3|4=>4|n=>n,fun |n=>n⟩
theorem Tryz.lays122:Go.Proofs.Lays.n122 γ Tryz.lays122_ren:={
 mixed:=kF
 f122:=zf func127
 f215:=zf func176
 t3:=dB
 a3:=jF
 z3:=gW
 v3:=gV
 t4:=eW
 a4:=lK
 z4:=jR
 v4:=gJ}
def Tryz.lays145_ren:iG:=⟨fun |145=>209|220=>242|219=>261|217=>280|225=>281|224=>282|267=>283|266=>295|314=>296|n=>n,fun |9=>9|4=>4|59=>285|3=>3|5=>5|46=>176|146=>360|51=>246|n=>n,fun |1=>2|n=>n⟩
theorem Tryz.lays145:Go.Proofs.Lays.n145 γ Tryz.lays145_ren:={
 mixed:=kF
 f145:=zf func209
 f217:=zf func280
 f219:=zf func261
 f220:=zf func242
 f224:=zf func282
 f225:=zf func281
 f266:=zf func295
 f267:=zf func283
 f314:=zf func296
 t3:=dB
 a3:=jF
 z3:=gW
 v3:=gV
 t4:=eW
 a4:=lK
 z4:=jR
 v4:=gJ
 t5:=pG
 a5:=MY
 z5:=KU
 v5:=DZ
 t9:=jG
 a9:=qH
 z9:=oN
 v9:=mB
 t46:=Ay
 a46:=Ik
 z46:=Ga
 v46:=Bp
 t51:=Jo
 a51:=Ue
 z51:=Qf
 v51:=KV
 t59:=underlying285
 a59:=isAgg285
 z59:=sizeOf285
 v59:=zeroValue285
 t146:=underlying360
 a146:=isAgg360
 z146:=sizeOf360
 v146:=zeroValue360
 g1:=by kernel_rfl}
def Tryz.lays160_ren:iG:=⟨fun |160=>243|232=>263|231=>262|227=>264|234=>266|233=>265|236=>268|235=>267|228=>284|271=>287|151=>286|197=>285|120=>299|152=>298|260=>297|137=>303|119=>304|224=>282|225=>281|217=>280|266=>295|n=>n,fun |9=>9|4=>4|3=>3|5=>5|117=>331|116=>330|0=>0|124=>334|21=>21|105=>348|46=>176|119=>372|139=>375|138=>374|n=>n,fun |3=>7|4=>8|n=>n⟩
theorem Tryz.lays160:Go.Proofs.Lays.n160 γ Tryz.lays160_ren:={
 mixed:=kF
 f119:=zf func304
 f120:=zf func299
 f137:=zf func303
 f151:=zf func286
 f152:=zf func298
 f160:=zf func243
 f197:=zf func285
 f217:=zf func280
 f224:=zf func282
 f225:=zf func281
 f227:=zf func264
 f228:=zf func284
 f231:=zf func262
 f232:=zf func263
 f233:=zf func265
 f234:=zf func266
 f235:=zf func267
 f236:=zf func268
 f260:=zf func297
 f266:=zf func295
 f271:=zf func287
 t0:=pK
 a0:=Aj
 z0:=xT
 v0:=rK
 t3:=dB
 a3:=jF
 z3:=gW
 v3:=gV
 t4:=eW
 a4:=lK
 z4:=jR
 v4:=gJ
 t5:=pG
 a5:=MY
 z5:=KU
 v5:=DZ
 t9:=jG
 a9:=qH
 z9:=oN
 v9:=mB
 t21:=underlying21
 a21:=isAgg21
 z21:=sizeOf21
 v21:=zeroValue21
 t46:=Ay
 a46:=Ik
 z46:=Ga
 v46:=Bp
 t105:=underlying348
 a105:=isAgg348
 z105:=sizeOf348
 v105:=zeroValue348
 t116:=underlying330
 a116:=isAgg330
 z116:=sizeOf330
 t117:=underlying331
 a117:=isAgg331
 z117:=sizeOf331
 v117:=zeroValue331
 t119:=underlying372
 a119:=isAgg372
 z119:=sizeOf372
 t124:=underlying334
 a124:=isAgg334
 z124:=sizeOf334
 v124:=zeroValue334
 t138:=underlying374
 a138:=isAgg374
 z138:=sizeOf374
 v138:=zeroValue374
 t139:=underlying375
 a139:=isAgg375
 z139:=sizeOf375
 v139:=zeroValue375
 g3:=kF
 g4:=by kernel_rfl}
open Go Go.RowKit Go.Shelf Go.Lib
def ab6:String:=String.ofList ([105,110,116,101,114,110,97,108,47,115,116,114,99,111,110,118,46,117,105,110,116,54,52,112,111,119,49,48].map Char.ofNat)
structure mV(w:η):Prop where
 tab:Lib.TabIs γ w ab6 .u64 Lib.pow10Tab
 cut:∃m,w.cell? ⟨2,0,δ⟩=ζ (Υ Ξ m)
theorem mV.below(h:mV w)(hb:Bw w w'):mV w':=by
 obtain⟨h1,m,h2⟩:=h;refine⟨?_,m,(hb.cell (aD w _ h2)).trans h2⟩;unfold Lib.TabIs World.var? at h1|-;cases hg:Tryz.prog.globalNamed ab6 with
 |none=>rw[hg]at h1;simp at h1
 |some g=>
  rw[hg]at h1;simp only[Option.bind_some]at h1|-;have hlt:g<w.heap.size:=by
   by_cases h:g<w.heap.size
   .exact h
   .rw[Array.getElem?_eq_none oM]at h1;simp at h1
  rw[hb.block g hlt];exact h1
theorem bw2(n w)(h:mV w)(h0:-9223372036854775808<=n)(h1:n<=9223372036854775807):
 aE γ 102 #[Υ Ξ n] w (Rt (Δ (bs (bR n))) w):=by
 refine(Any.strconv_Itoa Tryz.laysM171 n h0 h1 w h.tab).mono ?_;rintro e w'⟨rfl,k,os,rfl⟩;exact⟨rfl,Lib.below_grow _ _ (θ _) _ _⟩
theorem UR(s n w)(hl:s.size<=18)(h:Jp s.data.toList=ζ n):
 aE γ 213 #[Δ s] w (Rt (bT #[Υ Ξ n,.nilIface]) w):=by
 refine(Any.strconv_Atoi Tryz.lays172 s n hl h w).mono ?_;rintro e w'⟨rfl,t,rfl⟩;exact⟨rfl,Lib.bytesWorld_below _ _ _⟩
theorem qZ(s p w):
 aE γ 90 #[Δ s,Δ p] w fun e w'=>e=σ (Δ (bs (AW s.data.toList p.data.toList)))/\w=w':=
 (Any.strings_TrimPrefix Tryz.lays101 s p w).mono fun _ _ h=>⟨h.1,h.2.symm⟩
theorem Gj(s p w):
 aE γ 111 #[Δ s,Δ p] w fun e w'=>e=σ (ω (yI s.data.toList p.data.toList))/\w=w':=
 (Any.strings_HasPrefix Tryz.lays99 s p w).mono fun _ _ h=>⟨h.1,h.2.symm⟩
theorem Gl(s p w):
 aE γ 192 #[Δ s,Δ p] w fun e w'=>e=σ (bT #[Δ (bs (AW s.data.toList p.data.toList)),ω (yI s.data.toList p.data.toList)])/\w=w':=
 (Any.strings_CutPrefix Tryz.lays103 s p w).mono fun _ _ h=>⟨h.1,h.2.symm⟩
theorem Lf(x y w):
 aE γ 127 #[Υ Ξ x,Υ Ξ y] w fun e w'=>e=σ (Υ Ξ (Su x y))/\w=w':=
 (Any.cmp_Compare_int Tryz.lays122 x y w).mono fun _ _ h=>⟨h.1,h.2.symm⟩
theorem ax6(s sep w)(h:mV w)(hs:s.size<4294967281):
 aE γ 209 #[Δ s,Δ sep] w (Rt (bT #[Δ (bs (XX s.data.toList sep.data.toList).1),Δ (bs (XX s.data.toList sep.data.toList).2.1),ω (XX s.data.toList sep.data.toList).2.2]) w):=by
 obtain⟨m,hm⟩:=h.cut;refine(Any.strings_Cut Tryz.lays145 s sep m w hs hm).mono ?_;rintro e w'⟨rfl,n,rfl⟩;exact⟨rfl,dO (μ _ _) n⟩
def ab7:List UInt8:=[48,49,50,51,52,53,54,55,56,57]
theorem ab8(s cs w)(hs:s.size<=9223372036854775807)(CD:cs.data.toList=ab7):
 aE γ 243 #[Δ s,Δ cs] w (Rt (Δ (bs (Gb s.data.toList ab7))) w):=by
 have:=Any.strings_Trim_laid Tryz.lays160 kF s cs w hs (by rw[nw,<-Array.length_toList,CD];decide) (by rw[CD];exact ascii_of_all dD);rw[CD]at this;exact this
end
section
open Go Go.Lib
def ab9(n:Int):Int:=if n<0 then -1 else if 0<n then 1 else 0
end
section
open Go
open Go.Lib (hasPrefix trimPrefix)
theorem CP(l):yI l [45]=decide (l.head? =ζ 45):=by
 cases l with
 |nil=>rfl
 |cons c r=>
  by_cases h:c=45
  .subst h;rfl
  .have h':¬(45:UInt8)=c:=fun e=>h e.symm;simp[yI,OS,h,h']
theorem YX(l):AW l [45]=mag l:=by
 unfold AW mag;rw[CP];by_cases h:l.head? =ζ 45
 .rw[ip (by simp[h]),ip h];cases l<;>simp
 .rw[iN (by simp[h]),iN h]
end
section
open Go
open Go.Lib (trimS trimLeftS trimRightS)
def BF:List UInt8:=[48,49,50,51,52,53,54,55,56,57]
theorem Iw(c):BF.contains c=Au c:=by
 rw[oC];simp only[BF,Au,List.contains_cons,List.contains_nil,Bool.or_false,jZ,beq_iff_eq,aI,decide_eq_true_eq,<-UInt8.toNat_inj];simp;omega
theorem YY(p:α->Bool):∀l:List α,l.dropWhile p=[]↔∀x∈l,p x=ι
 |[]=>sP
 |a::l=>by
  rw[Ie]
  by_cases h:p a=ι
  .rw[ip h,YY p l];simp[h]
  .rw[iN h];simp[h]
theorem fx(p:α->Bool):∀(l:List α)(c:α)(r:List α),l.dropWhile p=c::r->p c=ν
 |[],_,_,h=>by cases h
 |a::l,c,r,h=>by
  rw[Ie]at h
  by_cases k:p a=ι
  .rw[ip k]at h;exact fx p l c r h
  .rw[iN k]at h;injection h with h1 h2;subst h1;simpa using k
theorem ac0(p:α->Bool):∀(l:List α)(x:α),x∈l.dropWhile p->x∈l
 |[],_,h=>by cases h
 |a::l,x,h=>by
  rw[Ie]at h
  by_cases k:p a=ι
  .rw[ip k]at h;exact cC _ (ac0 p l x h)
  .rw[iN k]at h;exact h
theorem qd(l):Gb l BF=[]↔l.all Au=ι:=by
 have hall:(∀x∈l,BF.contains x=ι)↔l.all Au=ι:=by
  rw[List.all_eq_true];exact forall_congr' fun x=>by rw[Iw]
 rw[<-hall];unfold Gb trimLeftS trimRightS;rw[YY];constructor
 .intro h;cases he:List.dropWhile (fun x=>BF.contains x) l.reverse with
  |nil=>
   rw[YY]at he;exact fun x hx=>he x (List.mem_reverse.2 hx)
  |cons c r=>
   have h1:=fx _ _ _ _ he;have h2:=h c (List.mem_reverse.2 (by rw[he];exact bO));rw[h1]at h2;cases h2
 .intro h x hx;exact h x (List.mem_reverse.1 (ac0 _ _ _ (List.mem_reverse.1 hx)))
theorem Lg:∀(l:List UInt8)(a:Nat),l.all Au=ι->Go.Lib.decFrom a l=ζ (l.foldl (fun a c=>a*10+(c.toNat-48)) a)
 |[],_,_=>rfl
 |b::r,a,h=>by
  rw[xW,aI]at h
  have hd:Go.Lib.digitVal b=ζ (b.toNat-48):=by
   have:=h.1;simp only[Au,aI,decide_eq_true_eq]at this;rw[Go.Lib.digitVal,ip this]
  rw[Go.Lib.decFrom,hd,oB];exact Lg r _ h.2
theorem Nb(h:l.all Au=ι)(h0:l≠[]):Go.Lib.decNat l=ζ (num l):=by
 rw[Go.Lib.decNat,iN (by simpa using h0),Lg l 0 h];rfl
theorem ac1(h:okI l=ι):Jp l=ζ (SC l):=by
 have hd:=YO h;have hl:=YN h;cases l with
 |nil=>simp[frm]at hl
 |cons b r=>
  by_cases h45:b=45
  .subst h45;have hm:mag (45::r)=r:=by simp[mag]
   rw[hm]at hd;have hr0:r≠[]:=by rintro rfl;simp[frm]at hl
   rw[Jp,ip (by rfl),Nb hd hr0];simp[SC,hm]
  .have hh:(b::r).head?≠ζ 45:=by simpa using h45
   have hm:mag (b::r)=b::r:=by rw[mag,iN hh]
   rw[hm]at hd;have hb:Au b=ι:=by rw[xW,aI]at hd;exact hd.1
   have h43:¬b=43:=by rintro rfl;revert hb;decide
   rw[Jp,iN (by simpa using h45),iN (by simpa using h43),Nb hd sP];simp[SC,hm,h45]
end
section
open Go Go.Lib
def nS(s:List UInt8):List UInt8:=s.takeWhile (·!=47)
def dS(s:List UInt8):List UInt8:=(s.dropWhile (·!=47)).tail
def Lh(s:List UInt8):Bool:=s.any (·==47)
theorem Iy(c s)(h:c≠47):nS (c::s)=c::nS s/\dS (c::s)=dS s/\Lh (c::s)=Lh s:=by
 have h1:(c !=47)=ι:=by simpa using h
 have h2:(c==47)=ν:=by simpa using h
 simp[nS,dS,Lh,h1,h2]
theorem Ea(s):nS (47::s)=[]/\dS (47::s)=s/\Lh (47::s)=ι:=by
 simp[nS,dS,Lh]
theorem ac2:∀(n d:List UInt8),(∀c∈n,c≠47)->nS (n++47::d)=n/\dS (n++47::d)=d/\Lh (n++47::d)=ι
 |[],d,_=>Ea d
 |c::n,d,h=>by
  obtain⟨h1,h2,h3⟩:=Iy c (n++47::d) (h c (bO ..))
  obtain⟨i1,i2,i3⟩:=ac2 n d fun x hx=>h x (cC _ hx)
  rw[bV,h1,h2,h3,i1,i2,i3]
  exact⟨rfl,rfl,rfl⟩
theorem US:∀(n:List UInt8),(∀c∈n,c≠47)->nS n=n/\dS n=[]/\Lh n=ν
 |[],_=>⟨rfl,rfl,rfl⟩
 |c::n,h=>by
  obtain⟨h1,h2,h3⟩:=Iy c n (h c (bO ..))
  obtain⟨i1,i2,i3⟩:=US n fun x hx=>h x (cC _ hx)
  rw[h1,h2,h3,i1,i2,i3]
  exact⟨rfl,rfl,rfl⟩
theorem Nc:∀(s:List UInt8),Lh s=ι->s=nS s++47::dS s
 |[],h=>by cases h
 |c::s,h=>by
  by_cases e:c=47
  .subst e
   obtain⟨h1,h2,_⟩:=Ea s
   rw[h1,h2];rfl
  .obtain⟨h1,h2,h3⟩:=Iy c s e
   rw[h1,h2,bV,<-Nc s (by rw[<-h3];exact h)]
theorem Iz:∀(s:List UInt8),Lh s=ν->nS s=s/\dS s=[]
 |[],_=>⟨rfl,rfl⟩
 |c::s,h=>by
  by_cases e:c=47
  .subst e;rw[(Ea s).2.2]at h;cases h
  .obtain⟨h1,h2,h3⟩:=Iy c s e
   obtain⟨i1,i2⟩:=Iz s (by rw[<-h3];exact h)
   rw[h1,h2,i1,i2];exact⟨rfl,rfl⟩
def okQ(s:List UInt8):Bool:=okI (nS s)&&(!Lh s||(pd (dS s)&&dS s !=[48]&&dS s !=[49]))
def UT(s:List UInt8):Bool:=decide (300<(mag (nS s)).length)||decide (300<(dS s).length)
def qN(s:List UInt8):Int:=SC (nS s)
def qD(s:List UInt8):Nat:=if Lh s=ι then num (dS s)else 1
def JN(s:List UInt8):Int:=
 if okQ s=ι then(if UT s=ι then 4 else if iF (qN s).natAbs (qD s)=1 then 0 else 11)else 11
def bZ(s:List UInt8):Rat:=mkRat (qN s) (qD s)
def aO(q:Rat):List UInt8:=if q.den=1 then bR q.num else bR q.num++47::bL q.den
theorem UU{c:UInt8}(h:Au c=ι):c≠47:=by rintro rfl;revert h;decide
theorem Dm(h:l.all Au=ι):∀c∈l,c≠47:=fun c hc=>UU (List.all_eq_true.1 h c hc)
theorem Gn(n):∀c∈bR n,c≠47:=by
 intro c hc;by_cases h:n<0
 .rw[zS h]at hc;rcases List.mem_cons.1 hc with rfl|hc
  .decide
  .exact Dm (lZ _) c hc
 .rw[mZ oM]at hc;exact Dm (lZ _) c hc
theorem SO(h:JN s=0):okQ s=ι/\UT s=ν/\iF (qN s).natAbs (qD s)=1:=by
 unfold JN at h;split at h
 .split at h
  .cases h
  .split at h
   .exact⟨‹_›,by simpa using‹¬UT s=ι›,‹_›⟩
   .cases h
 .cases h
theorem Qq(h:okQ s=ι):okI (nS s)=ι/\(Lh s=ι->pd (dS s)=ι/\dS s≠[48]/\dS s≠[49]):=by
 simp only[okQ,aI,jZ,bX,bne_iff_ne,ne_eq]at h;refine⟨h.1,fun e=>?_⟩;rcases h.2 with h|h
 .rw[e]at h;cases h
 .exact⟨h.1.1,h.1.2,h.2⟩
theorem UV(h:pd l=ι)(h0:l≠[48]):num l≠0:=by
 intro e;have:=wU l h;rw[e,oE]at this;exact h0 this.symm
theorem Gp:bL 1=[49]:=by rw[lD dD];rfl
theorem YZ(h:pd l=ι)(h0:l≠[49]):num l≠1:=by
 intro e;have:=wU l h;rw[e,Gp]at this;exact h0 this.symm
theorem aQ8(h:okQ s=ι):qD s≠0:=by
 unfold qD;split
 .obtain⟨h1,h2,-⟩:=(Qq h).2 ‹_›;exact UV h1 h2
 .decide
theorem Pq{n:Int}{d:Nat}(hd:d≠0)(h:iF n.natAbs d=1):(mkRat n d).num=n/\(mkRat n d).den=d:=by
 rw[Rat.num_mkRat,Rat.den_mkRat,iN hd,iN hd,An,h];exact⟨sP,sP⟩
theorem Y5(h:JN s=0):(bZ s).num=qN s/\(bZ s).den=qD s:=
 Pq (aQ8 (SO h).1) (SO h).2.2
theorem ac3(h:JN s=0):aO (bZ s)=s:=by
 obtain⟨h1,h2⟩:=Y5 h;obtain⟨k1,k2⟩:=Qq (SO h).1;rw[aO,h1,h2,qN,pi _ k1,qD];by_cases hs:Lh s=ι
 .obtain⟨e1,e2,e3⟩:=k2 hs;rw[ip hs,iN (YZ e1 e3),wU _ e1];exact(Nc s hs).symm
 .rw[iN hs,ip rfl];exact(Iz s (by simpa using hs)).1
theorem ax7{n:Int}(h:n.natAbs<10^300):(mag (bR n)).length<=300:=by
 rw[In,oA _ _ dD];exact h
theorem GO(q):nS (aO q)=bR q.num/\qN (aO q)=q.num/\qD (aO q)=q.den/\(Lh (aO q)=ν->q.den=1)/\(Lh (aO q)=ι->dS (aO q)=bL q.den/\q.den≠1):=by
 unfold aO;by_cases h:q.den=1
 .rw[ip h];obtain⟨h1,h2,h3⟩:=US _ (Gn q.num);refine⟨h1,by rw[qN,h1,Bt],by rw[qD,h3,iN dD,h],fun _=>h,fun e=>?_⟩;rw[h3]at e;cases e
 .rw[iN h];obtain⟨h1,h2,h3⟩:=ac2 _ (bL q.den) (Gn q.num);refine⟨h1,by rw[qN,h1,Bt],by rw[qD,h3,ip rfl,h2,nJ],fun e=>?_,fun _=>⟨h2,h⟩⟩;rw[h3]at e;cases e
theorem ac4(q)(h1:q.num.natAbs<10^300)(h2:q.den<10^300):JN (aO q)=0:=by
 obtain⟨e1,e2,e3,e4,e5⟩:=GO q;have yX:okQ (aO q)=ι:=by
  simp only[okQ,aI,jZ,bX,bne_iff_ne,ne_eq];refine⟨by rw[e1];exact D8 _,?_⟩;by_cases hs:Lh (aO q)=ι
  .obtain⟨d1,d2⟩:=e5 hs;right;rw[d1];refine⟨⟨Gh _,fun e=>?_⟩,fun e=>?_⟩
   .have:=congrArg num e;rw[nJ]at this;exact q.den_nz this
   .have:=congrArg num e;rw[nJ]at this;exact d2 this
  .left;simpa using hs
 have hl:UT (aO q)=ν:=by
  simp only[UT,Bool.or_eq_false_iff,decide_eq_false_iff_not];refine⟨by rw[e1];have:=ax7 h1;omega,?_⟩;by_cases hs:Lh (aO q)=ι
  .rw[(e5 hs).1];have:=(oA q.den 300 dD).2 h2;omega
  .rw[(Iz _ (by simpa using hs)).2];decide
 rw[JN,ip yX,iN (by rw[hl];decide),e2,e3,ip q.reduced]
theorem iI(q):bZ (aO q)=q:=by
 obtain⟨e1,e2,e3,-⟩:=GO q;rw[bZ,e2,e3,Rat.mkRat_self]
theorem ac5{p q:Rat}(h:aO p=aO q):p=q:=by rw[<-iI p,<-iI q,h]
def Qr(s t:List UInt8):Int:=if JN s=0 then JN t else JN s
def okZ(n:Int):Bool:=decide (n.natAbs<10^300)
def SQ(x y:Rat):Bool:=okZ (x.num*y.den)&&okZ (y.num*x.den)
def bb1(x y:Rat):Bool:=okZ (x.num*y.num)&&okZ (x.den*y.den)
def mT(x y:Rat):Int:=if x<y then -1 else if y<x then 1 else 0
def bt5(s t:List UInt8):List UInt8×Int:=if Qr s t=0 then(if bb1 (bZ s) (bZ t)=ι then(aO (bZ s*bZ t),0)else([],4))else([],Qr s t)
def fQ(s t:List UInt8):Int×Int:=if Qr s t=0 then(if SQ (bZ s) (bZ t)=ι then(mT (bZ s) (bZ t),0)else(0,4))else(0,Qr s t)
theorem JO(x y):mkRat (x.num*y.den+y.num*x.den) (x.den*y.den)=x+y:=(Rat.add_def' x y).symm
theorem JP(x y):mkRat (x.num*y.den-y.num*x.den) (x.den*y.den)=x-y:=(Rat.sub_def' x y).symm
theorem JQ(x y):mkRat (x.num*y.num) (x.den*y.den)=x*y:=(Rat.mul_def' x y).symm
theorem Nd(x y):D0 (x.num*y.den) (y.num*x.den)=x/y:=by
 have h:x/y=D0 x.num x.den*D0 y.den y.num:=by rw[Rat.div_def,Rat.inv_def,Rat.num_divInt_den]
 rw[h,Rat.divInt_mul_divInt,Int.mul_comm y.num]
theorem ac6(x y):mT x y=ab9 (x.num*y.den-y.num*x.den):=by
 have h1:=Rat.lt_iff x y;have h2:=Rat.lt_iff y x;generalize y.num*x.den=b,x.num*y.den=a at *;unfold mT ab9;by_cases h:x<y
 .have:=h1.1 h;rw[ip h,ip oM]
 .have k:¬a<b:=fun e=>h (h1.2 e);have k0:¬a-b<0:=oM;rw[iN h,iN k0];by_cases g:y<x
  .have:=h2.1 g;rw[ip g,ip oM]
  .have k2:¬b<a:=fun e=>g (h2.2 e);have k3:¬0<a-b:=oM;rw[iN g,iN k3]
theorem Eb(n d)(hd:d≠0):(mkRat n d).num=n/(iF n.natAbs d:Nat)/\(mkRat n d).den=d/iF n.natAbs d:=by
 rw[Rat.num_mkRat,Rat.den_mkRat,iN hd,iN hd,An];exact⟨rfl,rfl⟩
def HQ(k:Nat)(q:Rat):Prop:=q.num.natAbs<10^k/\q.den<10^k
theorem HQ.mono{q:Rat}(h:HQ j q)(hk:j<=k):HQ k q:=
 ⟨cN h.1 (sF dD hk),cN h.2 (sF dD hk)⟩
theorem BG(n d)(hd:d≠0):(mkRat n d).num.natAbs<=n.natAbs/\(mkRat n d).den<=d:=by
 obtain⟨h1,h2⟩:=Eb n d hd;rw[h1,h2];refine⟨?_,Nat.div_le_self _ _⟩;have hg:((iF n.natAbs d:Nat):Int)∣n:=Int.natAbs_dvd_natAbs.1 (by rw[dX];exact MZ _ _);have:=Int.ediv_mul_cancel hg;by_cases h0:n=0
 .subst h0;simp
 .have hd':(n/((iF n.natAbs d:Nat):Int))∣n:=⟨_,this.symm⟩;exact Nat.le_of_dvd oM (Int.natAbs_dvd_natAbs.2 hd')
theorem fZ{x y:Int}{a b:Nat}(h1:x.natAbs<10^a)(h2:y.natAbs<10^b):(x*y).natAbs<10^(a+b):=by
 rw[Cw,Nat.pow_add];exact Nat.mul_lt_mul'' h1 h2
theorem ac7{n:Int}(h:n.natAbs<10^k)(hk:k<=300):okZ n=ι:=by
 simp only[okZ,decide_eq_true_eq];exact zO 300 h hk
theorem Nf{x y:Int}(h1:x.natAbs<10^k)(h2:y.natAbs<10^k):(x+y).natAbs<10^(k+1):=by
 rw[DV];omega
theorem Ng{x y:Int}(h1:x.natAbs<10^k)(h2:y.natAbs<10^k):(x-y).natAbs<10^(k+1):=by
 rw[DV];omega
section
variable{a b:Nat}{x y:Rat}
theorem HQ.n(h:HQ a x):x.num.natAbs<10^a:=h.1
theorem HQ.d(h:HQ a x):((x.den:Nat):Int).natAbs<10^a:=by rw[dX];exact h.2
theorem HQ.cross(h1:HQ a x)(h2:HQ b y):(x.num*y.den).natAbs<10^(a+b)/\(y.num*x.den).natAbs<10^(a+b):=
 ⟨fZ h1.n h2.d,by rw[Nat.add_comm];exact fZ h2.n h1.d⟩
theorem Y6(h1:HQ a x)(h2:HQ b y)(h:a+b<=300):SQ x y=ι:=by
 simp only[SQ,aI];exact⟨ac7 (h1.cross h2).1 h,ac7 (h1.cross h2).2 h⟩
theorem AE(x y:Rat):x.den*y.den≠0:=Nat.mul_ne_zero x.den_nz y.den_nz
end
theorem Fq{q:Rat}(h:HQ k q)(hk:k<=300):JN (aO q)=0:=ac4 q (h.mono hk).1 (h.mono hk).2
section
variable{a b:Nat}{x y:Rat}
theorem ax8(h1:HQ a x)(h2:HQ b y)(ha:a<=300)(hb:b<=300):Qr (aO x) (aO y)=0:=by
 rw[Qr,ip (Fq h1 ha)];exact Fq h2 hb
theorem aQ9(h1:HQ a x)(h2:HQ b y)(h:a+b<=300):fQ (aO x) (aO y)=(mT x y,0):=by
 rw[fQ,ip (ax8 h1 h2 oM oM),iI,iI,ip (Y6 h1 h2 h)]
end
theorem Qs(s:ByteArray)(h:0<s.size):s.data.toList.head? =ζ s[0]:=by
 have h':0<s.data.toList.length:=h;rw[DK,aS h'];rfl
theorem zX(l c):((bs l).toList==c)=(l==c):=by rw[dM];rfl
theorem xI(n:Nat):bR (n:Int)=bL n:=by rw[mZ oM];rfl
theorem fy(z y):(bR z==bR y)=decide (z=y):=by
 by_cases h:z=y
 .subst h;simp
 .rw[decide_eq_false h,beq_eq_false_iff_ne];exact fun e=>h (aa2 e)
theorem SU:bR 1=[49]:=(xI 1).trans Gp
theorem SX:bR 0=[48]:=(xI 0).trans oE
theorem IA(n):(bR ((n:Nat):Int)==[49])=decide (n=1):=by
 rw[<-SU,fy];exact decide_eq_decide.2 oM
theorem pP(z):(bR z==[48])=decide (z=0):=by rw[<-SX,fy]
theorem Ec(z):yI (bR z) [45]=decide (z<0):=by
 rw[CP];exact decide_eq_decide.2 (yY z)
theorem wD(z):AW (bR z) [45]=bL z.natAbs:=by rw[YX,In]
theorem iE{n:Nat}(h:n<10^k)(hk:0<k):(bL n).length<=k:=(oA n k hk).2 h
theorem zY{n:Int}(h:n.natAbs<10^k)(hk:0<k):(bR n).length<=k+1:=by
 have:=iE h hk;by_cases h0:n<0
 .rw[zS h0,aC];omega
 .rw[mZ oM];omega
theorem wE{n:Nat}(h:n<10^k)(hk:0<k):(bR (n:Int)).length<=k:=by rw[xI];exact iE h hk
theorem Fs{n:Int}(h:n.natAbs<10^k)(hk:0<k):(bs (bR n)).size<=k+1:=by rw[lN];exact zY h hk
def JS(x y:Int):Int:=if y<0 then -x else x
theorem IB(a b):mkRat (JS a b) b.natAbs=D0 a b:=by
 by_cases h:b<0
 .obtain⟨d,rfl⟩:∃d:Nat,b= -(d:Int):=⟨(-b).toNat,oM⟩;rw[JS,ip h,Rat.divInt_neg',Rat.divInt_ofNat,GK,dX]
 .obtain⟨d,rfl⟩:∃d:Nat,b=(d:Int):=⟨b.toNat,oM⟩;rw[JS,iN h,Rat.divInt_ofNat,dX]
theorem ac8(n:Int)(d:Nat):mkRat (JS n d) (d:Int).natAbs=mkRat n d:=by
 rw[JS,iN oM,dX]
theorem IC(x y:Rat)(n:Int):mkRat (JS n ((x.den:Int)*y.den)) ((x.den:Int)*y.den).natAbs=mkRat n (x.den*y.den):=by
 rw[<-uJ,ac8]
def HB(a b:Nat)(q:Rat):Prop:=q.num.natAbs<10^a/\q.den<10^b
theorem HB.mono{a b c d:Nat}{q:Rat}(h:HB a b q)(h1:a<=c)(h2:b<=d):HB c d q:=⟨zO c h.1 h1,zO d h.2 h2⟩
theorem HB.dz{a b:Nat}{q:Rat}(h:HB a b q):((q.den:Nat):Int).natAbs<10^b:=by rw[dX];exact h.2
theorem HB.hq{a b:Nat}{q:Rat}(h:HB a b q)(h1:a<=k)(h2:b<=k):HQ k q:=h.mono h1 h2
theorem HB.int{n:Int}(h:n.natAbs<10^k):HB k 1 (n:Rat):=⟨by rw[vK];exact h,by rw[Fj];decide⟩
theorem HB.of{q:Rat}{N:Int}{a b:Nat}(h:q*D=N)(h0:D≠0)(h1:N.natAbs<10^a)(h2:D.natAbs<10^b):HB a b q:=by
 have e:q=D0 N D:=by
  rw[LZ,<-h,Rat.mul_div_cancel (by exact_mod_cast h0)]
 rw[<-IB]at e;have hd:D.natAbs≠0:=oM;obtain⟨l1,l2⟩:=BG (JS N D) D.natAbs hd;rw[<-e]at l1 l2;refine⟨kE l1 ?_,kE l2 h2⟩;unfold JS;split <;>omega
def Sm(s:List UInt8):Prop:=JN s=0/\HB 11 6 (bZ s)
theorem Sm.eq(h:Sm s):aO (bZ s)=s:=ac3 h.1
theorem Sm.of{q:Rat}(h:HB 11 6 q):Sm (aO q):=by
 refine⟨Fq (h.hq (k:=11) dD dD) dD,?_⟩;rw[iI];exact h
theorem Sm.cmp(hs:Sm s)(ht:Sm t):fQ s t=(mT (bZ s) (bZ t),0):=by
 have:=aQ9 (hs.2.hq (k:=11) dD dD) (ht.2.hq (k:=11) dD dD) dD;rwa[hs.eq,ht.eq]at this
end
section
open Go Go.RowKit Go.Lib
theorem Ed(x y):Su x y=ab9 (x-y):=by
 unfold Su ab9;by_cases h:x<y
 .rw[ip h,ip oM]
 .by_cases k:x>y
  .rw[iN h,ip k,iN oM,ip oM]
  .rw[iN h,iN k,iN oM,iN oM]
theorem UW(n):Jp (bR n)=ζ n:=by
 have:=ac1 (D8 n);rwa[Bt]at this
theorem Qt(n w)(hn:n.natAbs<10^17):
 aE γ 212 #[Δ (bs (bR n))] w fun e w'=>e=σ (Υ Ξ 0)/\Bw w w':=by
 have ht:=zq (fun W=>qZ (bs (bR n)) {data:=#[45]} W);rw[show(bs (bR n)).data.toList=bR n from rfl,show({data:=#[45]}:ByteArray).data.toList=[45]from rfl,wD]at ht;have hl:=iE hn dD;obtain⟨r,hr⟩:=nm (bs (bL n.natAbs));have hrl:r.data.toList=bL n.natAbs:=by rw[<-hr];rfl
 have hs:r.size<=17:=by rw[<-hr,lN];exact hl
 have hd:=lZ n.natAbs;rw[<-hrl]at hd;have h0:0<r.size:=by
  have:=iR n.natAbs;rw[<-hr,lN];exact List.length_pos_iff.2 this
 have he:(r.toList==[])=ν:=by
  rw[dM,hrl];exact beq_false_of_ne (iR _)
 have aM5:=zq (fun W=>ab8 r {data:=#[48,49,50,51,52,53,54,55,56,57]} W oM rfl);have JJ:((bs (Gb r.data.toList ab7)).toList==[])=ι:=by
  rw[dM,show(bs (Gb r.data.toList ab7)).data.toList=Gb r.data.toList BF from rfl,(qd _).2 hd];rfl
 generalize bs (Gb r.data.toList ab7)=T at *;have es:((bs (bR n)).toList==[48])=decide (n=0):=by rw[zX];exact pP n
 have hh:n≠0->((r[0].toNat:Int)==48)=ν:=by
  intro SY;rw[beq_eq_false_iff_ne];intro e;refine zR n.natAbs oM ?_;rw[<-hrl,Qs r h0];exact congrArg ζ (UInt8.toNat_inj.1 (show r[0].toNat=48 by omega))
 rw[hr]at ht;generalize bs (bR n)=A at *;clear hr hrl hd hl hn;by_cases h:n=0
 .have e48:((r[0].toNat:Int)==48)=ι\/((r[0].toNat:Int)==48)=ν:=by cases((r[0].toNat:Int)==48)<;>simp
  rw[decide_eq_true h]at es;clear hh h;rcases e48 with e48|e48;all_goals
   go_enter func212,ntmps212;go_wp2_with fail
   refine kr (ht.o w) ?_;go_wp2_with fail
   refine ka (aM5.o w) fun w' hb1=>?_;go_wp2;go_ret;exact⟨rfl,hb1⟩
 .have hh:=hh h;clear es h;go_enter func212,ntmps212;go_wp2_with fail
  refine kr (ht.o w) ?_;go_wp2_with fail
  refine ka (aM5.o w) fun w' hb1=>?_;go_wp2;go_ret;exact⟨rfl,hb1⟩
section
variable(x y:Int)(w:η)(hx:x.natAbs<10^17)(hy:y.natAbs<10^17)
include hx hy
theorem BH:
 aE γ 183 #[Δ (bs (bR x)),Δ (bs (bR y))] w fun e w'=>e=σ (Υ Ξ 0)/\Bw w w':=by
 have H1:=zq (Qt x w hx);have H2:=zq (fun W=>Qt y W hy);generalize bs (bR y)=Y,bs (bR x)=X at *;clear hx hy;go_enter func183,ntmps183;go_wp2_with fail
 refine ka H1.o fun w1 hb1=>?_;go_wp2_with fail
 refine kc (H2.o w1) hb1 fun w2 hB=>?_;go_wp2;go_ret;exact⟨rfl,hB⟩
theorem zA:
 aE γ 184 #[Δ (bs (bR x)),Δ (bs (bR y)),Υ Ξ 18] w fun e w'=>e=σ (bT #[Υ Ξ x,Υ Ξ y,ω ι])/\Bw w w':=by
 have c1:=zq (fun W=>UR (bs (bR x)) _ W (Fs hx dD) (UW x));have c2:=zq (fun W=>UR (bs (bR y)) _ W (Fs hy dD) (UW y));have s1:=Fs hx dD;have s2:=Fs hy dD;generalize bs (bR y)=Y,bs (bR x)=X at *;clear hx hy;go_enter func184,ntmps184;go_wp2_with fail
 refine ka (c1.o w) fun w1 hb1=>?_;go_wp2_with fail
 refine kc (c2.o w1) hb1 fun w2 hB=>?_;go_wp2;go_region;go_wp2;go_ret3;exact⟨rfl,dO hB 1⟩
variable(hE:mV w)
include hE
theorem ax9:
 aE γ 235 #[Δ (bs (bR x)),Δ (bs (bR y))] w fun e w'=>e=σ (bT #[Δ (bs (bR (x+y))),Υ Ξ 0])/\Bw w w':=by
 have Hb:=zq (BH x y w hx hy);have Hc:=zq (fun W=>zA x y W hx hy);have HE:=zq hE;clear hE;generalize bs (bR y)=Y,bs (bR x)=X at *;have hx':-100000000000000000<x/\x<100000000000000000:=oM;have hy':-100000000000000000<y/\y<100000000000000000:=oM;clear hx hy;go_enter func235,ntmps235;go_wp2_with fail
 refine ka Hb.o fun w1 hb1=>?_;go_wp2_with fail
 refine kc (Hc.o w1) hb1 fun w2 mQ=>?_;clear hb1;go_wp2_with fail
 refine kc (bw2 _ _ (HE.o.below mQ) oM oM) mQ fun w3 hB=>?_;go_wp2;go_ret2;exact⟨rfl,hB⟩
theorem ay0:
 aE γ 239 #[Δ (bs (bR x)),Δ (bs (bR y))] w fun e w'=>e=σ (bT #[Δ (bs (bR (x-y))),Υ Ξ 0])/\Bw w w':=by
 have Hb:=zq (BH x y w hx hy);have Hc:=zq (fun W=>zA x y W hx hy);have HE:=zq hE;clear hE;generalize bs (bR y)=Y,bs (bR x)=X at *;have hx':-100000000000000000<x/\x<100000000000000000:=oM;have hy':-100000000000000000<y/\y<100000000000000000:=oM;clear hx hy;go_enter func239,ntmps239;go_wp2_with fail
 refine ka Hb.o fun w1 hb1=>?_;go_wp2_with fail
 refine kc (Hc.o w1) hb1 fun w2 mQ=>?_;clear hb1;go_wp2_with fail
 refine kc (bw2 _ _ (HE.o.below mQ) oM oM) mQ fun w3 hB=>?_;go_wp2;go_ret2;exact⟨rfl,hB⟩
theorem S6(hl:(bR x).length+(bR y).length<=18)(hp:(x*y).natAbs<10^18):
 aE γ 182 #[Δ (bs (bR x)),Δ (bs (bR y))] w fun e w'=>e=σ (bT #[Δ (bs (bR (x*y))),Υ Ξ 0])/\Bw w w':=by
 have Hb:=zq (BH x y w hx hy);have Hc:=zq (fun W=>zA x y W hx hy);have HE:=zq hE;clear hE;rw[<-lN,<-lN]at hl;generalize bs (bR y)=Y,bs (bR x)=X at *;have e1:IntKind.i64.wrap ((X.size:Int)+(Y.size:Int))=(X.size:Int)+(Y.size:Int):=aM _ oM;have hli:(X.size:Int)+(Y.size:Int)<=18:=oM;obtain⟨p,hP⟩:=nm (x*y);have q1:IntKind.i64.wrap (x*y)=p:=by rw[hP];exact aM _ oM
 rw[hP]at hp;rw[hP];clear hP hx hy hl;go_enter func182,ntmps182;go_wp2_with fail
 refine ka Hb.o fun w1 hb1=>?_;go_wp2_with fail
 refine kc (Hc.o w1) hb1 fun w2 mQ=>?_;clear hb1;go_wp2_with fail
 refine kc (bw2 _ _ (HE.o.below mQ) oM oM) mQ fun w3 hB=>?_;go_wp2;go_ret2;exact⟨rfl,hB⟩
theorem UX:
 aE γ 134 #[Δ (bs (bR x)),Δ (bs (bR y))] w fun e w'=>e=σ (bT #[Υ Ξ (ab9 (x-y)),Υ Ξ 0])/\Bw w w':=by
 have Hb:=zq (BH x y w hx hy);have Hc:=zq (fun W=>zA x y W hx hy);rw[<-Ed];generalize bs (bR y)=Y,bs (bR x)=X at *;clear hx hy hE;go_enter func134,ntmps134;go_wp2_with fail
 refine ka Hb.o fun w1 hb1=>?_;go_wp2_with fail
 refine kc (Hc.o w1) hb1 fun w2 mQ=>?_;go_wp2_with fail
 refine kr (Lf x y w2) ?_;go_wp2;go_ret2;exact⟨rfl,mQ⟩
theorem gb:
 aE γ 153 #[Δ (bs (bR x)),Δ (bs (bR y))] w fun e w'=>e=σ (bT #[Δ (bs (bR ((iF x.natAbs y.natAbs:Nat):Int))),Υ Ξ 0])/\Bw w w':=by
 have Hb:=zq (BH x y w hx hy);have Hc:=zq (fun W=>zA x y W hx hy);have HE:=zq hE;clear hE;generalize bs (bR y)=Y,bs (bR x)=X at *;go_enter func153,ntmps153;go_wp2_with fail
 refine ka Hb.o fun w1 hb1=>?_;go_wp2_with fail
 refine kc (Hc.o w1) hb1 fun w2 mQ=>?_;clear hb1;go_wp2;go_loopw[7,8] (fun a b wr=>∃X Y:Int,a=Υ Ξ X/\b=Υ Ξ Y/\X.natAbs<10^17/\Y.natAbs<10^17/\aQ (iF X.natAbs Y.natAbs=iF x.natAbs y.natAbs)/\Bw w wr)
  (fun _ b _=>(ξ b).natAbs)
 case atStart=>exact⟨x,y,rfl,rfl,hx,hy,rfl,mQ⟩
 case round=>
  obtain⟨X,Y,rfl,rfl,hX,hY,hg,hBr⟩:=hrel;clear mQ;by_cases hy0:Y=0
  .subst hy0;have hm:aQ (max X (-X)=((iF x.natAbs y.natAbs:Nat):Int)):=by
    show _=_;rw[<-hg.o,show(0:Int).natAbs=0 from rfl,Nat.gcd_zero_right];omega
   have q1:IntKind.i64.wrap (-X)= -X:=aM _ oM;clear hg;go_wp2_with fail
   refine kc (bw2 _ _ (HE.o.below hBr) oM oM) hBr fun w3 hB=>?_;go_wp2;go_ret2;rw[hm.o];exact⟨rfl,hB⟩
  .have hlt:(X.tmod Y).natAbs<Y.natAbs:=by rw[Int.natAbs_tmod];exact aV _ oM
   have hgs:aQ (iF Y.natAbs (X.tmod Y).natAbs=iF x.natAbs y.natAbs):=by
    show _=_;rw[<-hg.o,Int.natAbs_tmod,An X.natAbs,Nat.gcd_rec Y.natAbs X.natAbs,An]
   have q1:IntKind.i64.wrap (X.tmod Y)=X.tmod Y:=aM _ oM;go_wp2;go_region;go_wp2;go_roundw;case rel=>exact⟨Y,X.tmod Y,rfl,rfl,hY,oM,hgs.o,dO hBr 1⟩
   case measure=>simp only[ξ];omega
theorem Nh(hy0:0<y)(hr:y∣x):
 aE γ 154 #[Δ (bs (bR x)),Δ (bs (bR y))] w fun e w'=>e=σ (bT #[Δ (bs (bR (x/y))),Δ (bs (bR 0)),Υ Ξ 0])/\Bw w w':=by
 have Hb:=zq (BH x y w hx hy);have Hc:=zq (fun W=>zA x y W hx hy);have HE:=zq hE;clear hE;have htz:((bs (bR y)).toList==[48])=ν:=by rw[zX,pP];exact decide_eq_false oM
 generalize bs (bR y)=Y,bs (bR x)=X at *;have e1:x.tdiv y=x/y:=XY hr;have e2:x.tmod y=0:=Int.tmod_eq_zero_of_dvd hr;have hq:(x.tdiv y).natAbs<10^17:=by rw[Int.natAbs_tdiv];exact kE (Nat.div_le_self _ _) hx
 rw[<-e1];have q1:IntKind.i64.wrap (x.tdiv y)=x.tdiv y:=aM _ oM;have q2:IntKind.i64.wrap (x.tmod y)=x.tmod y:=by rw[e2];exact aM _ oM
 clear hr e1;go_enter func154,ntmps154;go_wp2_with fail
 refine ka Hb.o fun w1 hb1=>?_;go_wp2_with fail
 refine kc (Hc.o w1) hb1 fun w2 mQ=>?_;clear hb1;go_wp2;go_region;replace mQ:=dO mQ 1;change Bw w w2.drew at mQ;clear q1 q2;generalize x.tmod y=r,hqe:x.tdiv y=q at *;have Hq:=zq hqe;subst e2;clear hqe;go_wp2_with fail
 refine kc (bw2 _ _ (HE.o.below mQ) oM oM) mQ fun w3 Ft=>?_;go_wp2_with fail
 refine kc (bw2 _ _ (HE.o.below Ft) oM oM) Ft fun w4 Qu=>?_;go_wp2;go_ret3;exact⟨by first |rfl|(rw[Hq.o];rfl),Qu⟩
end
theorem ge(x y w)(hx:x<=9223372036854775807)(hy:y<=9223372036854775807):
 aE γ 180 #[iv x,iv y] w fun e w'=>e=σ (iv (iF x y))/\∃n,w'=w.drewN n:=by
 go_enter func180,ntmps180;go_wp2;go_loopw[0,1] (fun a b wr=>∃X Y:Nat,a=Υ Ξ X/\b=Υ Ξ Y/\X<=9223372036854775807/\Y<=9223372036854775807/\aQ (iF X Y=iF x y)/\∃n,wr=w.drewN n)
  (fun _ b _=>(ξ b).toNat)
 case atStart=>exact⟨x,y,rfl,rfl,hx,hy,rfl,0,rfl⟩
 case round=>
  obtain⟨X,Y,rfl,rfl,hX,hY,hg,nd,rfl⟩:=hrel;by_cases hy0:Y=0
  .subst hy0;have hm:aQ (iF x y=X):=by
    show _=_;rw[<-hg.o,Nat.gcd_zero_right]
   clear hg;go_wp2;go_ret;exact⟨ax2 (by rw[hm.o]),nd,rfl⟩
  .have hlt:X%Y<Y:=aV _ oM;have hgs:aQ (iF Y (X%Y)=iF x y):=by
    show _=_;rw[<-hg.o,An X,Nat.gcd_rec Y X,An]
   obtain⟨R,hR⟩:=nm (X%Y);have hRb:R<=9223372036854775807:=oM;have q3:((X:Int))%(Y:Int)=(R:Int):=by rw[<-hR,Int.natCast_emod]
   have q1:((X:Int)).tmod (Y:Int)=(R:Int):=(kO (Int.natCast_nonneg _)).trans q3;have q2:IntKind.i64.wrap (R:Int)=(R:Int):=aM _ oM;have q0:((Y:Int) !=0)=ι:=by rw[bne_iff_ne];omega
   have q4:¬(Y:Int)=0:=oM;rw[hR]at hgs hlt;clear hR hg;go_wp2;go_region;go_wp2;go_roundw;case rel=>exact⟨Y,R,rfl,rfl,hY,hRb,hgs.o,nd+1,rfl⟩
   case measure=>simp only[ξ,gG];exact hlt
theorem Pr(s:ByteArray)(k:Nat)(h:k<s.size):num (s.data.toList.take (k+1))=num (s.data.toList.take k)*10+(s[k].toNat-48):=by
 rw[bM (show k<s.data.toList.length from h),M5];rfl
theorem Qv{n L:Nat}{s:ByteArray}(e:s.data.toList=bL n++r)(hl:(bL n).length=L)(hr:r=[]\/r.head? =ζ 47):
 s.size=L+r.length/\0<L/\(∀k(h:k<s.size),k<L->48<=s[k].toNat/\s[k].toNat<=57)/\(∀h:L<s.size,s[L].toNat=47)/\(1<L->∀h:0<s.size,s[0].toNat≠48):=by
 have hs:s.size=L+r.length:=by
  have:s.data.toList.length=s.size:=rfl;rw[<-this,e,aJ,hl]
 have hg:∀k(h:k<s.size),s[k]=(bL n++r)[k]'(by rw[aJ,hl];omega):=by
  intro k h;have:s[k]=s.data.toList[k]'h:=rfl;rw[this];exact List.getElem_of_eq e _
 refine⟨hs,by rw[<-hl];exact List.length_pos_iff.2 (iR n),fun k h hk=>?_,fun h=>?_,fun h1 h=>?_⟩
 .have:=List.all_eq_true.1 (lZ n) _ (List.getElem_mem (show k<(bL n).length by omega));rw[hg k h,Uf oM];simpa[Au]using this
 .rw[hg L h,List.getElem_append_right oM];rcases hr with rfl|hr
  .simp at hs;omega
  .rw[DK]at hr;obtain⟨q,hq⟩:=List.getElem?_eq_some_iff.1 hr;simp only[hl,CI,hq];rfl
 .intro h48;have hn:n≠0:=by
   rintro rfl;rw[oE]at hl;simp at hl;omega
  refine zR n hn ?_;rw[DK,aS oM];have:=hg 0 h;rw[Uf oM]at this;rw[<-this];exact congrArg ζ (UInt8.toNat_inj.1 h48)
theorem Gq(n r s w)(e:s.data.toList=bL n++r)(hr:r=[]\/r.head? =ζ 47)(hs:s.size<=1000):
 aE γ 179 #[Δ s] w fun e w'=>e=σ (if n<10^8 then bT #[Υ Ξ n,Δ (bs r),ω ι]else bT #[Υ Ξ 0,Δ (bs []),ω ν])/\∃n,w'=w.drewN n:=by
 obtain⟨L,hL⟩:=nm (bL n).length;obtain⟨Dv,h0,hd,h47,h48⟩:=Qv e hL hr;have h8:=oA n 8 dD;rw[hL]at h8;have hall:(s.data.toList.take L).all Au=ι:=by rw[e,<-hL,List.take_left];exact lZ n
 have hn:num (s.data.toList.take L)=n:=by rw[e,<-hL,List.take_left,nJ]
 have hlt:∀k,k<=L->k<=9->num (s.data.toList.take k)<10^9:=by
  intro k h1 h2;have:=aa1 (s.data.toList.take k) (by
   rw[List.all_eq_true]at hall|-;intro x hx;have e2:s.data.toList.take k=(s.data.toList.take L).take k:=by rw[List.take_take,Nat.min_eq_left h1]
   rw[e2]at hx;exact hall x (List.mem_of_mem_take hx))
  exact cN this (sF dD (by rw[List.length_take];omega))
 have qh:s.extract L s.size=bs r:=aa4 (by rw[Jz,e,<-hL,List.drop_left]);have HL:=zq hlt;have Hd:=zq hd;replace Dv:L<=s.size:=oM;have H48:=zq h48;clear hL hlt hd h48 hall e hr;generalize hV:(if n<10^8 then bT #[Υ Ξ n,Δ (bs r),ω ι]else bT #[Υ Ξ 0,Δ (bs []),ω ν]:χ)=V;have HV:=zq hV;clear hV;go_enter func179,ntmps179;go_wp2;go_loop [5,6] (fun n i=>∃k:Nat,i=Υ Ξ k/\k<=L/\k<=9/\n=Υ Ξ (num (s.data.toList.take k):Nat)) (fun _ i=>s.size-(ξ i).toNat);case atStart=>exact⟨0,rfl,aP _,aP _,rfl⟩
 case round=>
  obtain⟨k,rfl,hk,hk9,rfl⟩:=hrel;have hb:=HL.o k hk hk9;by_cases hc:k<L/\k<=8
  .obtain⟨hlt,h8k⟩:=hc;have hlt2:k<s.size:=oM;have AF:=zq (Pr s k hlt2);obtain⟨g48,g57⟩:=Hd.o k hlt2 hlt;have bm5:48<=(s[k].toNat:Int):=oM;have bm6:(s[k].toNat:Int)<=57:=oM;obtain⟨d,hdv⟩:∃d:Nat,(s[k].toNat:Int)-48=(d:Int):=⟨s[k].toNat-48,oM⟩;have q1:IntKind.u8.wrap ((s[k].toNat:Int)-48)=(d:Int):=by rw[hdv];exact IntWalk.u8_in _ oM
   have q2:((s[k].toNat:Int)-48)%256=(d:Int):=by rw[hdv];omega
   have hd2:aQ (s[k].toNat-48=d):=by show _=_;omega
   have hd9:d<=9:=oM;generalize num (s.data.toList.take k)=N at *;have hN:N<=999999999:=oM;clear hb hdv g48 g57 h47 qh;go_wp2;go_round;case rel=>exact⟨k+1,by go_num,oM,oM,by rw[AF.o,hd2.o];congr 1;omega⟩
   case measure=>simp only[ξ];omega
  .by_cases hk8:8<k
   .have R:¬n<10^8:=fun c=>by have:=h8.2 c;omega
    have R:=zq (HV.o.symm.trans (iN R));have h8':¬(k:Int)<=8:=oM;clear HV hc h8 hn h47 qh;go_wp2;all_goals(go_ret3;exact⟨by rw[R.o];rfl,0,rfl⟩)
   .have hkL:k=L:=oM;subst hkL;have R:n<10^8:=h8.1 oM;have R:=zq (HV.o.symm.trans (ip R));rw[hn];have hp:0<s.size:=oM;have b8:decide ((8:Int)<(k:Int))=ν:=by simp;omega
    have b0:((k:Int)==0)=ν:=by simp;omega
    have e2:1<k->((s[0].toNat:Int)==48)=ν:=fun h1=>by rw[beq_eq_false_iff_ne];exact fun e=>H48.o h1 hp oM
    clear HV hc h8 hn hb;by_cases hlen:k<s.size
    .have g47:=h47 hlen;have g48:¬48<=(s[k].toNat:Int):=oM;clear h47 g47;by_cases h1:1<k
     .have e2:=e2 h1;go_wp2;go_region;go_wp2;go_ret3;exact⟨by rw[R.o,<-qh];rfl,1,rfl⟩
     .clear e2;go_wp2;go_region;go_wp2;go_ret3;exact⟨by rw[R.o,<-qh];rfl,1,rfl⟩
    .clear h47;by_cases h1:1<k
     .have e2:=e2 h1;go_wp2;go_region;go_wp2;go_ret3;exact⟨by rw[R.o,<-qh];rfl,1,rfl⟩
     .clear e2;go_wp2;go_region;go_wp2;go_ret3;exact⟨by rw[R.o,<-qh];rfl,1,rfl⟩
def Nv(x:Rat):Prop:=HB 8 8 x
instance(x:Rat):Decidable (Nv x):=inferInstanceAs (Decidable (_/\_))
def JT(d:Nat):List UInt8:=if d=1 then[]else 47::bL d
theorem BI(x):aO x=bR x.num++JT x.den:=by
 unfold aO JT;split <;>simp
theorem qi(d):JT d=[]\/(JT d).head? =ζ 47:=by
 unfold JT;split <;>simp
theorem UY{x:Rat}{a b:Nat}(h:HB a b x)(ha:0<a)(hb:0<b):(aO x).length<=a+b+2:=by
 rw[BI,aJ];have h1:=zY h.1 ha;have h2:=iE h.2 hb;unfold JT;split
 .simp;omega
 .rw[aC];omega
theorem ac9(x):∃O:ByteArray,O.data.toList=bL x.num.natAbs++JT x.den/\0<(bs (aO x)).size/\
 (∀h:0<(bs (aO x)).size,(((bs (aO x))[0].toNat:Int)==45)=decide (x.num<0))/\
 (x.num<0->(bs (aO x)).extract 1 (bs (aO x)).size=O/\(bs (aO x)).size=O.size+1)/\(¬x.num<0->bs (aO x)=O):=by
 refine⟨bs (bL x.num.natAbs++JT x.den),rfl,?_,?_,?_,?_⟩
 .rw[lN,BI,aJ];have:bR x.num≠[]:=fun e=>by have:=D8 x.num;rw[e]at this;revert this;decide
  have:=List.length_pos_iff.2 this;omega
 .intro h;have h1:=Qs (bs (aO x)) h;rw[gL]at h1;have h2:=yY x.num;have h3:(aO x).head? =(bR x.num).head?:=by
   rw[BI];exact tC fun e=>by have:=D8 x.num;rw[e]at this;revert this;decide
  rw[<-h3,h1]at h2;rw[oC,beq_iff_eq,decide_eq_true_eq,<-h2];constructor
  .intro e;exact congrArg ζ (UInt8.toNat_inj.1 (show(bs (aO x))[0].toNat=45 by omega))
  .intro e;rw[dZ e];rfl
 .intro h;have e:aO x=45::(bL x.num.natAbs++JT x.den):=by rw[BI,zS h];rfl
  rw[e];exact⟨aa4 (by rw[Jz];rfl),by rw[lN,lN];rfl⟩
 .intro h;rw[BI,mZ oM]
theorem pA(x w)(hx : HB 17 17 x):
    aE γ 131 #[Δ (bs (aO x))] w fun e w'=>e=σ (if Nv x then bT #[bQ #[Υ Ξ x.num,Υ Ξ x.den],ω ι] else bT #[bQ #[Υ Ξ 0,Υ Ξ 0],ω ν]) /\ Bw w w':=by
  obtain ⟨O,hO,hpos,hneg,hm1,hm0⟩:=ac9 x
  have Dv:(bs (aO x)).size <= 36:=by rw [lN]; exact UY hx dD dD
  generalize bs (aO x)=a at *
  replace hneg:=hneg hpos
  have hOs:O.size <= 36:=by
    by_cases h:x.num < 0
    . have:=(hm1 h).2; omega
    . rw [<- hm0 h]; exact Dv
  have Hn:=zq (fun W=>Gq x.num.natAbs (JT x.den) O W hO (qi _) oM)
  have M1:aQ (decide (x.num < 0)=ι -> a.extract 1 a.size=O /\ a.size=O.size+1):=fun h=>hm1 (of_decide_eq_true h)
  have M0:aQ (decide (x.num < 0)=ν -> a=O):=fun h=>hm0 (of_decide_eq_false h)
  have bb2:aQ (x.num=if decide (x.num < 0)=ι then -(x.num.natAbs:Int) else (x.num.natAbs:Int)):=by
    show _=_; simp only [decide_eq_true_eq]; split <;> omega
  have hz:decide (x.num < 0)=ι -> ((x.num.natAbs:Int) == 0)=ν:=fun h=>by
    have:=of_decide_eq_true h; rw [beq_eq_false_iff_ne]; omega
  have he:a.toList.isEmpty=ν:=by
    rw [dM]; cases k:a.data.toList with
    | nil => have : a.data.toList.length = a.size := rfl
             rw [k] at this; simp at this; omega
    | cons _ _=>rfl
  have hR:∀ c,decide (x.num < 0)=c -> x.num.natAbs < 10 ^ 8 -> x.den < 10 ^ 8 -> aQ ((if Nv x then bT #[bQ #[Υ Ξ x.num,Υ Ξ x.den],ω ι] else bT #[bQ #[Υ Ξ 0,Υ Ξ 0],ω ν]:χ)=bT #[bQ #[Υ Ξ (if c=ι then -(x.num.natAbs:Int) else (x.num.natAbs:Int)),Υ Ξ x.den],ω ι]):=by
    intro c hc h1 h2
    show _=_
    rw [ip (show Nv x from ⟨h1,h2⟩),<- hc,<- bb2.o]
  have hRn:¬ (x.num.natAbs < 10 ^ 8 /\ x.den < 10 ^ 8) -> aQ ((if Nv x then bT #[bQ #[Υ Ξ x.num,Υ Ξ x.den],ω ι] else bT #[bQ #[Υ Ξ 0,Υ Ξ 0],ω ν]:χ)=bT #[bQ #[Υ Ξ 0,Υ Ξ 0],ω ν]):=fun h=>by
    show _=_
    rw [iN (show ¬ Nv x from h)]
  have ad0:iF x.num.natAbs x.den=1:=x.reduced
  have bb3:=x.den_nz
  have hOl:(JT x.den).length <= O.size:=by
    have:O.data.toList.length=O.size:=rfl
    rw [<- this,hO,aJ]; omega
  generalize x.num.natAbs=n at *
  generalize x.den=d at *
  generalize (if Nv x then bT #[bQ #[Υ Ξ x.num,Υ Ξ d],ω ι] else bT #[bQ #[Υ Ξ 0,Υ Ξ 0],ω ν]:χ)=V at *
  clear hO hm1 hm0 bb2 hx
  go_enter func131,ntmps131
  go_upto_region 2 with fail
  go_cut [16] (fun v w'=>v=ω (decide (x.num < 0)) /\ w'=w.alloc (π #[Υ Ξ 0,Υ Ξ 0] 192))
  case first =>
    go_wp2; go_meet
    case rel=>exact ⟨rfl,rfl⟩
  obtain ⟨rfl,rfl⟩:=hcut
  go_upto_if 16 with fail
  go_cut [4] (fun o w'=>o=Δ O /\ w'=w.alloc (π #[Υ Ξ 0,Υ Ξ 0] 192))
  case first =>
    cases hm:decide (x.num < 0) with
    | true =>
      have c:=(M1.o hm).1
      have h1:(1:Int) <= (a.size:Int):=oM
      clear hm
      go_wp2; go_meet
      case rel=>exact ⟨rfl,rfl⟩
    | false =>
      have c:=zq (M0.o hm)
      clear hm
      go_wp2; go_meet
      case rel=>exact ⟨by rw [<- c.o],rfl⟩
  case rest =>
    obtain ⟨rfl,rfl⟩:=hcut
    have hlt:decide (O.size < a.size)=decide (x.num < 0):=by
      cases h:decide (x.num < 0) with
      | true=>exact decide_eq_true (by have:=(M1.o h).2; omega)
      | false=>exact decide_eq_false (by rw [<- M0.o h]; omega)
    clear M1 M0 hneg
    generalize decide (x.num < 0)=m at *
    have hR:=hR m rfl
    by_cases h8:n < 10 ^ 8
    . rw [ip h8] at Hn
      have hR:=hR h8
      by_cases hd1:d=1
      . have R := hR oM
        have e1:JT d=[]:=ip hd1
        rw [e1] at Hn
        subst hd1
        have he:(bs []).toList.isEmpty=ι:=by rw [dM]; rfl
        clear hRn e1 ad0 bb3 hR hOl
        cases m
        case' false=>clear hz
        case' true=>replace hz:=hz rfl
        all_goals
          go_wp2_with fail
          refine (Hn.o _).mono ?_
          rintro e w1 ⟨rfl,k1,rfl⟩
          go_wp2
        . exact cU (v:=bT #[bQ #[Υ Ξ (-(n:Int)),Υ Ξ 1],ω ι]) (by simp [gP,tV,go_sem]) rfl ⟨by rw [R.o] <;> first | rfl | simp,by repeat (first | exact μ _ _ | refine nV ?_ sP _ | refine rO ?_ sP _ | refine dO ?_ _)⟩
        . exact cU (v:=bT #[bQ #[Υ Ξ n,Υ Ξ 1],ω ι]) (by simp [gP,tV,go_sem]) rfl ⟨by rw [R.o] <;> first | rfl | simp,by repeat (first | exact μ _ _ | refine nV ?_ sP _ | refine rO ?_ sP _ | refine dO ?_ _)⟩
      . have e1 : JT d = 47 :: bL d := iN hd1
        rw [e1] at Hn hOl
        obtain ⟨RS,hRS⟩:=nm (bs (47 :: bL d))
        have hne:RS.toList.isEmpty=ν:=by rw [<- hRS,dM]; rfl
        have bt6:0 < RS.size:=by rw [<- hRS,lN]; simp
        have h1i:(1:Int) <= (RS.size:Int):=oM
        have h47:((RS[0].toNat:Int) != 47)=ν:=by subst hRS; rfl
        have hex:RS.extract 1 RS.size=bs (bL d):=by subst hRS; exact aa4 (by rw [Jz,gL]; rfl)
        rw [hRS] at Hn
        have DN:(bL d).length <= 36:=by rw [aC] at hOl; omega
        have H2:=zq (fun W=>Gq d [] (bs (bL d)) W (by rw [gL,kQ]) (.inl rfl) (by rw [lN]; omega))
        have he:(bs []).toList.isEmpty=ι:=by rw [dM]; rfl
        clear e1 hRS DN hOl
        by_cases hd8:d < 10 ^ 8
        . have R := hR hd8
          rw [ip hd8] at H2
          have Hg:=zq (fun W=>ge n d W oM oM)
          rw [ad0] at Hg
          unfold iv at Hg
          have d2:¬ (d:Int) < 2:=oM
          clear hR hRn ad0 hd1
          cases m
          case' false=>clear hz
          case' true=>replace hz:=hz rfl
          all_goals
            go_wp2_with fail
            refine (Hn.o _).mono ?_
            rintro e w1 ⟨rfl,k1,rfl⟩
            go_wp2_with fail
            refine (H2.o _).mono ?_
            rintro e w1 ⟨rfl,k2,rfl⟩
            go_wp2_with fail
            refine (Hg.o _).mono ?_
            rintro e w1 ⟨rfl,k3,rfl⟩
            go_wp2
          . exact cU (v:=bT #[bQ #[Υ Ξ (-(n:Int)),Υ Ξ d],ω ι]) (by simp [gP,tV,go_sem]) rfl ⟨by rw [R.o] <;> first | rfl | simp,by repeat (first | exact μ _ _ | refine nV ?_ sP _ | refine rO ?_ sP _ | refine dO ?_ _)⟩
          . exact cU (v:=bT #[bQ #[Υ Ξ n,Υ Ξ d],ω ι]) (by simp [gP,tV,go_sem]) rfl ⟨by rw [R.o] <;> first | rfl | simp,by repeat (first | exact μ _ _ | refine nV ?_ sP _ | refine rO ?_ sP _ | refine dO ?_ _)⟩
        . have R := hRn fun c => hd8 c.2
          rw [iN hd8] at H2
          clear hR hRn ad0 hd1
          cases m
          case' false=>clear hz
          case' true=>replace hz:=hz rfl
          all_goals
            go_wp2_with fail
            refine (Hn.o _).mono ?_
            rintro e w1 ⟨rfl,k1,rfl⟩
            go_wp2_with fail
            refine (H2.o _).mono ?_
            rintro e w1 ⟨rfl,k2,rfl⟩
            go_wp2
            exact cU (v:=bT #[bQ #[Υ Ξ 0,Υ Ξ 0],ω ν]) (by simp [gP,tV,go_sem]) rfl ⟨by rw [R.o] <;> first | rfl | simp,by repeat (first | exact μ _ _ | refine nV ?_ sP _ | refine rO ?_ sP _ | refine dO ?_ _)⟩
    . have R := hRn fun c => h8 c.1
      rw [iN h8] at Hn
      clear hR hRn ad0 hz
      go_wp2_with fail
      refine (Hn.o _).mono ?_
      rintro e w1 ⟨rfl,k1,rfl⟩
      go_wp2
      exact cU (v:=bT #[bQ #[Υ Ξ 0,Υ Ξ 0],ω ν]) (by simp [gP,tV,go_sem]) rfl ⟨by rw [R.o] <;> first | rfl | simp,by repeat (first | exact μ _ _ | refine nV ?_ sP _ | refine rO ?_ sP _ | refine dO ?_ _)⟩
theorem Qw(n:Int)(d:Nat)(h1:n.natAbs<10^18)(h2:d<10^18):aQ ((∀W,(Op.stringOp .add (bs (bR n)) {data:=#[47]}).run γ W=.ok (Δ (bs (bR n++[47]))) W)/\
 ∀W,(Op.stringOp .add (bs (bR n++[47])) (bs (bR (d:Int)))).run γ W=.ok (Δ (bs (bR n++[47]++bR (d:Int)))) W):=by
 have ln:=zY h1 dD;have ld:=wE h2 dD;exact⟨fun W=>JA W (bR n) [47] oM dD,fun W=>JA W (bR n++[47]) (bR (d:Int)) (by rw[aJ];simp only[aC,bB];omega) oM⟩
theorem UZ{x:Rat}(h:x.den=1):aO x=bR x.num:=ip h
theorem U0{x:Rat}(h:¬x.den=1):aO x=bR x.num++[47]++bR (x.den:Int):=by rw[aO,iN h,xI];simp
theorem ID(n d w)(hE:mV w)(hn:n.natAbs<10^18)(hd:d.natAbs<10^18)(h0:d≠0):
 aE γ 259 #[bQ #[Υ Ξ n,Υ Ξ d]] w fun e w'=>e=σ (Δ (bs (aO (mkRat (JS n d) d.natAbs))))/\Bw w w':=by
 generalize hTT:bs (aO (mkRat (JS n d) d.natAbs))=TT;have HT:=zq hTT;clear hTT;go_enter func259,ntmps259;go_upto_if 8 with fail;go_cut[] (fun w'=>Bw w w'/\bE w' w.heap.size #[Υ Ξ (JS n d),iv d.natAbs] 192);case first =>
  by_cases hneg:d<0
  .have w1:IntKind.i64.wrap (-n)= -n:=aM _ oM;have w2:IntKind.i64.wrap (-d)= -d:=aM _ oM;have e1:aQ (JS n d= -n):=ip hneg;have e2:aQ (((d.natAbs:Nat):Int)= -d):=by show _=_;omega
   clear hE hn hd h0;go_wp2;go_meet;case rel=>
    rw[e1.o,show iv d.natAbs=Υ Ξ (-d) by unfold iv;rw[e2.o]];exact⟨nA w _,bE.new w _ _⟩
  .have e1:aQ (JS n d=n):=iN hneg;have e2:aQ (((d.natAbs:Nat):Int)=d):=by show _=_;omega
   clear hE hn hd h0;go_wp2;go_meet;case rel=>
    rw[e1.o,show iv d.natAbs=Υ Ξ d by unfold iv;rw[e2.o]];exact⟨nA w _,bE.new w _ _⟩
 case rest=>
  obtain⟨hB,hb⟩:=hcut;have hu:(JS n d).natAbs<10^18:=by unfold JS;split <;>omega
  generalize hV:d.natAbs=v,JS n d=u at *;have hv0:v≠0:=oM;clear hn h0 hV;obtain⟨q1,q2⟩:=Eb u v hv0;obtain⟨l1,l2⟩:=BG u v hv0;have JU:0<iF u.natAbs v:=UJ _ oM;have Hg:=zq (fun W=>ge u.natAbs v W oM oM);have hdu:((iF u.natAbs v:Nat):Int)∣u:=Int.natAbs_dvd_natAbs.1 (by rw[dX];exact MZ _ _);generalize iF u.natAbs v=g at *;have e1:u.tdiv (g:Int)=(mkRat u v).num:=by rw[q1];exact XY hdu
  have e2:(v:Int).tdiv (g:Int)=(((mkRat u v).den:Nat):Int):=by rw[q2];exact(Int.tdiv_eq_ediv_of_nonneg oM).trans (M3 _ _).symm
  have e1':u/(g:Int)=(mkRat u v).num:=q1.symm;have e2':(v:Int)/(g:Int)=(((mkRat u v).den:Nat):Int):=by rw[q2];exact(M3 _ _).symm
  have T1:aQ (_->TT=_):=fun h=>HT.o.symm.trans (congrArg bs (UZ (x:=mkRat u v) h));have T2:aQ (_->TT=_):=fun h=>HT.o.symm.trans (congrArg bs (U0 (x:=mkRat u v) h));clear q1 q2 hdu HT;generalize(mkRat u v).num=N at *;generalize(mkRat u v).den=D at *;have HI1:=zq (fun(W:η)(hb:Bw w W)=>bw2 N W (hE.below hb) oM oM);have HI2:=zq (fun(W:η)(hb:Bw w W)=>bw2 (D:Int) W (hE.below hb) oM oM);have c0:=hb.ce 0;have c1:=hb.ce 1;unfold iv at c1 Hg;have q0:((g:Int) !=0)=ι:=by rw[bne_iff_ne];omega
  have q4:¬(g:Int)=0:=oM;have hmx:max u (-u)=((u.natAbs:Nat):Int):=oM;have b1:-999999999999999999<=N:=oM;have b2:N<=999999999999999999:=oM;have b3:(D:Int)<=999999999999999999:=oM;have w1:IntKind.i64.wrap (-u)= -u:=aM _ oM;have w2:IntKind.i64.wrap N=N:=aM _ oM;have w3:IntKind.i64.wrap (D:Int)=(D:Int):=aM _ oM;have CS:=Qw N D oM oM;generalize u.natAbs=U at *;clear hE hb hu hd hv0 l1 l2 JU;by_cases h1:D=1
  .have d1:(((D:Nat):Int)==1)=ι:=by rw[h1];rfl
   have R:=zq (T1.o h1);clear h1 T1 T2 CS;go_wp2_with fail
   refine(Hg.o _).mono ?_;rintro e W1⟨rfl,k1,rfl⟩;go_wp2;go_region;go_wp2_with fail
   refine kc (HI1.o _ (dO hB _)) (dO hB _) fun W2 hb2=>?_;go_wp2;go_ret;exact⟨by rw[R.o];rfl,hb2⟩
  .have d1:(((D:Nat):Int)==1)=ν:=by rw[beq_eq_false_iff_ne];omega
   have R:=zq (T2.o h1);obtain⟨c1',qj⟩:=CS.o;clear h1 T1 T2 CS;go_wp2_with fail
   refine(Hg.o _).mono ?_;rintro e W1⟨rfl,k1,rfl⟩;go_wp2;go_region;go_wp2_with fail
   refine kc (HI1.o _ (dO hB _)) (dO hB _) fun W2 mQ=>?_;go_wp2_with fail
   refine kc (HI2.o _ mQ) mQ fun W3 hb3=>?_;go_wp2;go_ret;exact⟨by rw[R.o];simp,hb3⟩
theorem Ni(n s w)(e:s.data.toList=bL n)(hs:s.size<=1000):
 aE γ 210 #[Δ s] w fun e w'=>e=σ (Υ Ξ s.size)/\w=w':=by
 obtain⟨Dv,h0,hd,-,h48⟩:=Qv (r:=[]) (by rw[e,kQ]) rfl (.inl rfl);rw[bB,Nat.add_zero]at Dv;rw[<-Dv]at hd h48 h0;have e2:1<s.size->((s[0].toNat:Int)==48)=ν:=fun h1=>by rw[beq_eq_false_iff_ne];exact fun e=>h48 h1 h0 oM
 have Hd:=zq hd;clear Dv e hd h48;go_enter func210,ntmps210;go_wp2;go_loop [3] (fun i=>∃k:Nat,i=Υ Ξ k/\k<=s.size) (fun i=>s.size-(ξ i).toNat);case atStart=>exact⟨0,rfl,aP _⟩
 case round=>
  obtain⟨k,rfl,hk⟩:=hrel;by_cases hlt:k<s.size
  .obtain⟨g48,g57⟩:=Hd.o k hlt hlt;have bm5:48<=(s[k].toNat:Int):=oM;have bm6:(s[k].toNat:Int)<=57:=oM;clear g48 g57 e2;go_wp2;go_round;case rel=>exact⟨k+1,by go_num,oM⟩
   case measure=>simp only[ξ];omega
  .have hk2:k=s.size:=oM;subst hk2;by_cases h1:1<s.size
   .have e2:=e2 h1;go_wp2;go_ret;exact⟨rfl,rfl⟩
   .clear e2;go_wp2;go_ret;exact⟨rfl,rfl⟩
theorem jC{p u:Tmp}(h:fn.results= #[.cell p ty,.tmp u])(tmps w g x y)(hp:tmps.getD p ψ=aB (ζ ⟨g,0,δ⟩))(hb:bE w g #[x,y] T)(ha:∀w,(isAgg ty).run P w=.ok ι w)(hs:∀w,(sizeOf ty).run P w=.ok 2 w):
 (gP fn tmps).run P w=.ok (bT #[bQ #[x,y],tmps.getD u ψ]) w:=by
 have S7:tmps[p]?.getD ψ=aB (ζ ⟨g,0,δ⟩):=by simpa using hp
 have c0:=hb.ce 0;have c1:=hb.ce 1;simp[gP,h,go_sem,S7,c0,c1,ha,hs]
theorem Li:∀l:List UInt8,Lib.index l [47]=if Lh l=ι then((nS l).length:Int)else -1
 |[]=>dD
 |c::l=>by
  have ih:=Li l
  by_cases h:c=47
  .subst h
   rw[(Ea l).2.2,(Ea l).1]
   simp[Lib.index,OS]
  .obtain⟨h1,_,h3⟩:=Iy c l h
   rw[h1,h3]
   have hp:([47]:List UInt8).isPrefixOf (c::l)=ν:=by simp[OS];exact fun e=>h e.symm
   rw[Lib.index,hp,ih]
   by_cases hs:Lh l=ι
   .rw[hs];simp
   .simp[hs]
theorem qk(l):XX l [47]=(nS l,dS l,Lh l):=by
 unfold XX;rw[Li];by_cases hs:Lh l=ι
 .have e:=Nc l hs;rw[hs,ip rfl,ip oM,gG];generalize dS l=D,nS l=N at *;subst e;simp
 .have e:=Iz l (by simpa using hs);rw[iN hs,iN dD,e.1,e.2];simp[hs]
abbrev O4(x:Rat):χ:=bQ #[Δ (bs (bR x.num)),Δ (bs (bR (x.den:Int)))]
theorem ay1(x w)(hE:mV w)(hx:HB 17 17 x):
 aE γ 181 #[Δ (bs (aO x))] w fun e w'=>e=σ (bT #[O4 x,ω ι])/\Bw w w':=by
 have hl:=UY hx dD dD;have HC:=zq (fun(W:η)(hb:Bw w W)=>ax6 (bs (aO x)) {data:=#[47]} W (hE.below hb) (by rw[lN];omega));obtain⟨p1,-,-,p2,p3⟩:=GO x;rw[show({data:=#[47]}:ByteArray).data.toList=[47]from rfl,gL,qk,p1]at HC;have HP:=zq (fun W=>Gl (bs (bR x.num)) {data:=#[45]} W);rw[gL,show({data:=#[45]}:ByteArray).data.toList=[45]from rfl,wD,Ec]at HP;have sN:=iE hx.1 dD;have sD:=iE hx.2 dD;rw[<-lN]at sN sD;have HdN:=zq (fun W=>Ni x.num.natAbs (bs (bL x.num.natAbs)) W rfl oM);have HdD:=zq (fun W=>Ni x.den (bs (bL x.den)) W rfl oM);have zN:decide (x.num<0)=ι->((bs (bL x.num.natAbs)).toList==[48])=ν:=fun h=>by
  have:=of_decide_eq_true h;rw[zX,<-xI,pP];exact decide_eq_false oM
 have zD:((bs (bL x.den)).toList==[48])=ν:=by
  rw[zX,<-xI,pP];exact decide_eq_false (by have:=x.den_nz;omega)
 have oD:¬x.den=1->((bs (bL x.den)).toList==[49])=ν:=fun h=>by
  rw[zX,<-xI,IA];exact decide_eq_false h
 have pN:((bs (bL x.num.natAbs)).size:Int)≠0:=by
  rw[lN];have:=List.length_pos_iff.2 (iR x.num.natAbs);omega
 have pD:((bs (bL x.den)).size:Int)≠0:=by
  rw[lN];have:=List.length_pos_iff.2 (iR x.den);omega
 have pN:(((bs (bL x.num.natAbs)).size:Int)==0)=ν:=by rw[beq_eq_false_iff_ne];exact pN
 have pD:(((bs (bL x.den)).size:Int)==0)=ν:=by rw[beq_eq_false_iff_ne];exact pD
 have If:aQ (∀W1,Below (w.alloc (π #[Δ {data:=#[]},Δ {data:=#[]}] 196)).heap.size (w.alloc (π #[Δ {data:=#[]},Δ {data:=#[]}] 196)) W1->
  Bw w W1/\bE W1 w.heap.size #[Δ {data:=#[]},Δ {data:=#[]}] 196):=fun W1 h=>
  ⟨cD (nA w _) h sP,(bE.new w _ _).below h sP⟩
 unfold O4;have e1:x.den=1->bR (x.den:Int)=[49]:=fun h=>by rw[h];exact SU
 rw[xI]at *;have hdd:x.den=1\/¬x.den=1:=Classical.em _;have P2:aQ (x.den=1->Lh (aO x)=ν):=fun h=>by
  cases hs:Lh (aO x)with
  |false=>rfl
  |true=>exact absurd h (p3 hs).2
 have P3:aQ (¬x.den=1->Lh (aO x)=ι/\dS (aO x)=bL x.den):=fun h=>by
  cases hs:Lh (aO x)with
  |false=>exact absurd (p2 hs) h
  |true=>exact⟨rfl,(p3 hs).1⟩
 clear p1 p2 p3 hl hx hE;generalize x.den=dn,bL x.den=D,dS (aO x)=dd,Lh (aO x)=s,decide (x.num<0)=m,bs (bL x.num.natAbs)=N,bs (bR x.num)=B,bs (aO x)=A at *;go_enter func181,ntmps181;go_wp2_with fail
 refine ka (HC.o _ (nA w _)) fun W1 hb1=>?_;obtain⟨hB,hb⟩:=If.o _ hb1;have xZ:=hb.lt;have c0:=hb.ce 0;have c1:=hb.ce 1;have f0:=hb.fz 0;have f1:=hb.fz 1;have Ju:=zq hb;clear hb1 hb If HC;go_wp2_with fail
 refine kr (HP.o _) ?_;go_wp2_with fail
 refine kr (HdN.o _) ?_;rcases hdd with hdd|hdd
 .have hs:=P2.o hdd;have e1:=e1 hdd;subst hs;clear P2 P3 oD hdd zD pD HdD sD;cases m;case' false=>clear zN
  case' true=>replace zN:=zN rfl
  all_goals
   go_wp2;exact cU (jC (T:=196) Tryz.results181 _ _ w.heap.size _ _ rfl ((Ju.o.set 0 _).set 1 _) Cx Az) rfl ⟨by rw[e1];rfl,(hB.setCell (θ _) _).setCell (θ _) _⟩
 .obtain⟨hs,hdT⟩:=P3.o hdd;have oD:=oD hdd;subst hs hdT;clear P2 P3 hdd e1;cases m;case' false=>clear zN
  case' true=>replace zN:=zN rfl
  all_goals
   go_wp2_with fail
   refine kr (HdD.o _) ?_;go_wp2;exact cU (jC (T:=196) Tryz.results181 _ _ w.heap.size _ _ rfl ((Ju.o.set 0 _).set 1 _) Cx Az) rfl ⟨rfl,(hB.setCell (θ _) _).setCell (θ _) _⟩
theorem BJ(x w)(hE:mV w)(hx:HB 17 17 x):
 aE γ 132 #[Δ (bs (aO x))] w fun e w'=>e=σ (bT #[O4 x,Υ Ξ 0])/\Bw w w':=by
 have Hc:=zq (ay1 x _ (hE.below (nA w (π #[Δ {data:=#[]},Δ {data:=#[]}] 196))) hx);have If:aQ (∀W1,Below (w.alloc (π #[Δ {data:=#[]},Δ {data:=#[]}] 196)).heap.size (w.alloc (π #[Δ {data:=#[]},Δ {data:=#[]}] 196)) W1->
  Bw w W1/\bE W1 w.heap.size #[Δ {data:=#[]},Δ {data:=#[]}] 196):=fun W1 h=>
  ⟨cD (nA w _) h sP,(bE.new w _ _).below h sP⟩
 have Hn:=zq (fun W=>pA x W hx);have HT:=zq (fun W=>qZ (bs (bR x.num)) {data:=#[45]} W);rw[gL,show({data:=#[45]}:ByteArray).data.toList=[45]from rfl,wD]at HT;have sN:=iE hx.1 dD;have sD:=wE hx.2 dD;rw[<-lN]at sN sD;have HG:=zq (fun W(hW:Bw w W)=>gb x.num x.den W hx.1 hx.dz (hE.below hW));rw[dX,x.reduced]at HG;have e1:(bs (bR ((1:Nat):Int))).toList=[49]:=by rw[dM,gL];exact SU
 have h1:((bs (bR (x.den:Int))).toList==[49])=decide (x.den=1):=by rw[zX,IA]
 unfold O4 at *;generalize bs (bR ((1:Nat):Int))=G,bs (bR (x.den:Int))=DT,bs (bR x.num)=N,bs (bL x.num.natAbs)=M,bs (aO x)=A,decide (x.den=1)=one at *;clear hE hx;have l1:(M.size:Int)<=300:=oM;have l2:(DT.size:Int)<=300:=oM;go_enter func132,ntmps132;go_wp2_with fail
 refine ka Hc.o fun W1 hb1=>?_;obtain⟨hB,hb⟩:=If.o _ hb1;have hlt:=hb.lt;have hq:bE (W1.alloc (π #[Δ N,Δ DT] 196)) W1.heap.size #[Δ N,Δ DT] 196:=bE.new W1 _ _;have hb:=hb.alloc (π #[Δ N,Δ DT] 196);have hB:=hB.alloc (fM hlt) (π #[Δ N,Δ DT] 196);clear hb1 If Hc;by_cases hQ:Nv x
 .rw[ip hQ]at Hn;clear hQ HG h1 HT;go_wp2_with fail
  refine ka (Hn.o _) fun W2 hb2=>?_;have hs2:=hb2.size;simp only[aL]at hs2;have hq:=hq.below hb2 sP;have hb:=hb.below hb2 (by simp;omega);have hB:=cD hB hb2 (by simp;omega);have c0:=hb.ce 0;have c1:=hb.ce 1;have f0:=hb.fz 0;have f1:=hb.fz 1;have d0:=hq.ce 0;have d1:=hq.ce 1;have Ju:=zq hb;have hlt2:W1.heap.size<W2.heap.size:=oM;have hlt3:w.heap.size<W2.heap.size:=oM;clear hb2 hq hb hs2;go_wp2;exact cU (jC (T:=196) OT _ _ w.heap.size _ _ rfl (by first |exact(Ju.o.set 0 _).set 1 _|exact((Ju.o.set 0 _).set 1 _).alloc _) Cx Az) rfl ⟨rfl,by repeat(first |exact hB|refine nV ?_ (by exact θ _) _|refine rO ?_ (by simp;omega) _)⟩
 .rw[iN hQ]at Hn;clear hQ;go_wp2_with fail
  refine ka (Hn.o _) fun W2 hb2=>?_;have hs2:=hb2.size;simp only[aL]at hs2;have hq:=hq.below hb2 sP;have hb:=hb.below hb2 (by simp;omega);have hB:=cD hB hb2 (by simp;omega);have hlt2:W1.heap.size<W2.heap.size:=oM;have hlt3:w.heap.size<W2.heap.size:=oM;have c0:=hb.ce 0;have c1:=hb.ce 1;have f0:=hb.fz 0;have f1:=hb.fz 1;have d0:=hq.ce 0;have d1:=hq.ce 1;have Ju:=zq hb;have hq':=zq hq;clear hb2 hq hs2 Hn hb;cases one
  .go_wp2_with fail
   refine kr (HT.o _) ?_;go_wp2_with fail
   refine ka (HG.o _ (hB.alloc oM _)) fun W4 hb4=>?_;have hs4:=hb4.size;simp only[aL]at hs4;have hb:=(Ju.o.alloc _).below hb4 (by simp;omega);have hq:=(hq'.o.alloc _).below hb4 (by simp;omega);have hB:=cD (hB.alloc oM _) hb4 (by simp;omega);have c0:=hb.ce 0;have c1:=hb.ce 1;have f0:=hb.fz 0;have f1:=hb.fz 1;have d0:=hq.ce 0;have d1:=hq.ce 1;have bt7:w.heap.size<W4.heap.size:=oM;replace Ju:=zq hb;clear hb hq hb4 hs4 HG;go_wp2;exact cU (jC (T:=196) OT _ _ w.heap.size _ _ rfl (by first |exact(Ju.o.set 0 _).set 1 _|exact((Ju.o.set 0 _).set 1 _).alloc _) Cx Az) rfl ⟨rfl,by repeat(first |exact hB|refine nV ?_ (by exact θ _) _|refine rO ?_ (by simp;omega) _)⟩
  .go_wp2_with fail
   refine kr (HT.o _) ?_;go_wp2;exact cU (jC (T:=196) OT _ _ w.heap.size _ _ rfl (by first |exact(Ju.o.set 0 _).set 1 _|exact((Ju.o.set 0 _).set 1 _).alloc _) Cx Az) rfl ⟨rfl,by repeat(first |exact hB|refine nV ?_ (by exact θ _) _|refine rO ?_ (by simp;omega) _)⟩
theorem Qx(x w)(hE:mV w)(hx:HB 17 17 x):
 aE γ 109 #[Δ (bs (aO x))] w fun e w'=>e=σ (Υ Ξ 0)/\Bw w w':=by
 have Hr:=zq (BJ x w hE hx);unfold O4 at Hr;go_enter func109,ntmps109;go_wp2_with fail
 refine ka Hr.o fun W1 hb1=>?_;go_wp2;go_ret;exact⟨rfl,hb1.alloc hb1.size _⟩
theorem JV(x w)(hE:mV w)(hx:HB 17 17 x):
 aE γ 89 #[Δ (bs (aO x))] w fun e w'=>e=σ (bT #[Δ (bs (bR x.num)),Δ (bs (bR (x.den:Int))),Υ Ξ 0])/\Bw w w':=by
 have Hr:=zq (BJ x w hE hx);unfold O4 at Hr;generalize bs (bR (x.den:Int))=D,bs (bR x.num)=N at *;go_enter func89,ntmps89;go_wp2_with fail
 refine ka Hr.o fun W1 hb1=>?_;go_wp2;go_region;go_wp2;go_ret3;exact⟨rfl,dO (hb1.alloc hb1.size _) 1⟩
theorem IE(z w)(hz:z.natAbs<10^17):
 aE γ 152 #[Δ (bs (bR z))] w fun e w'=>e=σ (Δ (bs (bR (-z))))/\w=w':=by
 have h0:((bs (bR z)).toList==[48])=decide (z=0):=by rw[zX];exact pP z
 have HP:=zq (fun W=>Gl (bs (bR z)) {data:=#[45]} W);rw[show(bs (bR z)).data.toList=bR z from rfl,show({data:=#[45]}:ByteArray).data.toList=[45]from rfl,Ec,wD]at HP;have ls:=zY hz dD;have ay2:aQ (0<z->∀W,(Op.stringOp .add {data:=#[45]} (bs (bR z))).run γ W=.ok (Δ (bs (bR (-z)))) W):=by
  intro h W;have:=JA (P:=γ) W [45] (bR z) dD oM;rw[show[45]++bR z=bR (-z) by rw[zS (n:=-z) oM,mZ oM,GK];rfl]at this;exact this
 by_cases c0:z=0
 .subst c0;rw[show(-(0:Int))=0 from rfl];clear HP ay2 hz ls;generalize bs (bR 0)=A at *;rw[decide_eq_true rfl]at h0;go_enter XZ,Ug;go_wp2;go_ret;exact⟨rfl,rfl⟩
 .rw[decide_eq_false c0]at h0;by_cases cn:z<0
  .rw[decide_eq_true cn,show bL z.natAbs=bR (-z) by rw[mZ oM,GK]]at HP;clear ay2 hz ls c0 cn;generalize bs (bR (-z))=B,bs (bR z)=A at *;go_enter XZ,Ug;go_wp2_with fail
   refine kr (HP.o _) ?_;go_wp2;go_ret;exact⟨rfl,rfl⟩
  .have hc:=ay2.o oM;rw[decide_eq_false cn]at HP;clear ay2 hz ls c0 cn;generalize bs (bR (-z))=B,bs (bR z)=A at *;go_enter XZ,Ug;go_wp2_with fail
   refine kr (HP.o _) ?_;go_wp2;go_ret;exact⟨rfl,rfl⟩
theorem CQ(x y w)(hE:mV w)(hx:x.natAbs<10^17)(hy:y.natAbs<10^17)(h0:y≠0):
 aE γ 103 #[Δ (bs (bR x)),Δ (bs (bR y))] w fun e w'=>e=σ (bT #[Δ (bs (aO (mkRat (JS x y) y.natAbs))),Υ Ξ 0])/\Bw w w':=by
 have HP:=zq (fun W=>Gj (bs (bR y)) {data:=#[45]} W);rw[show(bs (bR y)).data.toList=bR y from rfl,show({data:=#[45]}:ByteArray).data.toList=[45]from rfl,Ec]at HP;have Lj:=zq (fun W=>IE x W hx);have Ps:=zq (fun W=>IE y W hy);obtain⟨X,hX⟩:=nm (bs (bR x));obtain⟨Y,hY⟩:=nm (bs (bR y));rw[hY]at HP;rw[hX]at Lj;rw[hY]at Ps;rw[hX,hY];have HX:=zq hX;have HY:=zq hY;clear hX hY;generalize hTT:bs (aO (mkRat (JS x y) y.natAbs))=TT;have HT:=zq hTT;clear hTT;go_enter func103,ntmps103;go_wp2_with fail
 refine kr (HP.o _) ?_;go_upto_if 9 with fail;go_cut[0,1] (fun n d w'=>n=Δ (bs (bR (JS x y)))/\d=Δ (bs (bR ((y.natAbs:Nat):Int)))/\w=w');case first =>
  by_cases hy0:y<0
  .have EX:aQ (JS x y= -x):=ip hy0;have EY:aQ (((y.natAbs:Nat):Int)= -y):=by show _=_;omega
   clear hx hy h0 hE;go_wp2_with fail
   refine kr (Lj.o _) ?_;go_wp2_with fail
   refine kr (Ps.o _) ?_;go_wp2;go_meet;case rel=>exact⟨by rw[EX.o],by rw[EY.o],rfl⟩
  .have EX:aQ (JS x y=x):=iN hy0;have EY:aQ (((y.natAbs:Nat):Int)=y):=by show _=_;omega
   clear hx hy h0 hE;go_wp2;go_meet;case rel=>exact⟨by rw[EX.o,HX.o],by rw[EY.o,HY.o],rfl⟩
 case rest=>
  obtain⟨rfl,rfl,rfl⟩:=hcut;have hv:y.natAbs≠0:=oM;have hu:(JS x y).natAbs<10^17:=by unfold JS;split <;>omega
  clear HX HY hx h0 HP Lj Ps;generalize y.natAbs=v,JS x y=u at *;have hvz:((v:Nat):Int).natAbs<10^17:=by rw[dX];exact hy
  obtain⟨f1,f2⟩:=Eb u v hv;have JU:0<iF u.natAbs v:=UJ _ oM;have hgv:iF u.natAbs v<=v:=Nat.gcd_le_right _ oM;have d1:((iF u.natAbs v:Nat):Int)∣u:=Int.natAbs_dvd_natAbs.1 (by rw[dX];exact MZ _ _);have d2:((iF u.natAbs v:Nat):Int)∣(v:Int):=Int.natCast_dvd_natCast.2 (Nat.gcd_dvd_right _ _);have HG:=zq (gb u v w hu hvz hE);rw[dX]at HG;have T1:aQ (_->TT=_):=fun h=>HT.o.symm.trans (congrArg bs (UZ (x:=mkRat u v) h));have T2:aQ (_->TT=_):=fun h=>HT.o.symm.trans (congrArg bs (U0 (x:=mkRat u v) h));clear HT;obtain⟨l1,l2⟩:=BG u v hv;generalize iF u.natAbs v=g at *;have hgz:((g:Nat):Int).natAbs<10^17:=by rw[dX];exact kE hgv hy
  have Yk:=zq (fun(W:η)(hb:Bw w W)=>Nh u g W hu hgz (hE.below hb) oM d1);have Pu:=zq (fun(W:η)(hb:Bw w W)=>Nh v g W hvz hgz (hE.below hb) oM d2);rw[<-f1]at Yk;rw[<-M3,<-f2]at Pu;have h1g:((bs (bR ((g:Nat):Int))).toList==[49])=decide (g=1):=by rw[zX];exact IA g
  have Dn:g=1->u=(mkRat u v).num/\v=(mkRat u v).den:=by
   intro e;rw[e]at f1 f2;exact⟨by rw[f1];exact(Int.ediv_one u).symm,by rw[f2];exact(Nat.div_one v).symm⟩
  generalize(mkRat u v).num=n at *;generalize(mkRat u v).den=d at *;have h1d:((bs (bR ((d:Nat):Int))).toList==[49])=decide (d=1):=by rw[zX];exact IA d
  have CS:=Qw n d oM oM;clear hv hvz hu f1 f2 l1 l2 d1 d2 JU hgv hgz hy hE;have fin:∀c,decide (d=1)=c->if c=ι then aQ (TT=bs (bR n))else aQ (TT=bs (bR n++[47]++bR (d:Int))):=by
   intro c hc;cases c
   .exact T2.o (of_decide_eq_false hc)
   .exact T1.o (of_decide_eq_true hc)
  have R:=fin _ rfl;obtain⟨c1,c2⟩:=CS.o;clear fin T1 T2;generalize decide (d=1)=od at *;by_cases hg:g=1
  .obtain⟨e1,e2⟩:=Dn hg;subst e1 e2;rw[decide_eq_true hg]at h1g;clear hg Dn Yk Pu;cases od;all_goals
    go_wp2_with fail
    refine ka HG.o fun W1 hb1=>?_;go_wp2;go_ret2;exact⟨by rw[show TT=_ from R]<;>first |rfl|simp,hb1⟩
  .rw[decide_eq_false hg]at h1g;clear hg Dn;cases od;all_goals
    go_wp2_with fail
    refine ka HG.o fun W1 hb1=>?_;go_wp2_with fail
    refine kc (Yk.o _ hb1) hb1 fun W2 mQ=>?_;go_wp2_with fail
    refine kc (Pu.o _ mQ) mQ fun W3 hb3=>?_;go_wp2;go_ret2;exact⟨by rw[show TT=_ from R]<;>first |rfl|simp,hb3⟩
theorem IF(n w)(hE:mV w)(hn:n.natAbs<10^18):
 aE γ 49 #[Υ Ξ n,Υ Ξ 1] w fun e w'=>e=σ (bT #[Δ (bs (aO (n:Rat))),Υ Ξ 0])/\Bw w w':=by
 have Hi:=zq (bw2 n w hE oM oM);have R:aQ (aO (n:Rat)=bR n):=by show _=_;rw[aO,ip (Fj n),vK]
 clear hE hn;go_enter func49,ntmps49;go_wp2_with fail
 refine ka Hi.o fun W1 hb1=>?_;go_wp2;go_ret2;exact⟨by rw[R.o];rfl,hb1⟩
theorem ay3(n:Int)(d:Nat)(w:η)(hE:mV w)(hn:n.natAbs<10^17)(hd:0<d)(hd2:d<10^17):
 aE γ 49 #[Υ Ξ n,Υ Ξ d] w fun e w'=>e=σ (bT #[Δ (bs (aO (mkRat n d))),Υ Ξ 0])/\Bw w w':=by
 by_cases h1:d=1
 .subst h1;have:=IF n w hE oM;rwa[<-Rat.mkRat_one n]at this
 have Hi:=zq (bw2 n w hE oM oM);have Hj:=zq (fun W(hW:Bw w W)=>bw2 (d:Int) W (hE.below hW) oM oM);have Hk:=zq (fun W(hW:Bw w W)=>CQ n (d:Int) W (hE.below hW) hn (by rw[dX];exact hd2) oM);rw[ac8]at Hk;have e0:((d:Int)==0)=ν:=by rw[beq_eq_false_iff_ne];omega
 have e1:((d:Int)==1)=ν:=by rw[beq_eq_false_iff_ne];omega
 clear hE hn hd hd2 h1;go_enter func49,ntmps49;go_wp2_with fail
 refine ka Hi.o fun W1 hb1=>?_;go_wp2_with fail
 refine kc (Hj.o _ hb1) hb1 fun W2 mQ=>?_;go_wp2_with fail
 refine kc (Hk.o _ mQ) mQ fun W3 hb3=>?_;go_wp2;go_ret2;exact⟨rfl,hb3⟩
section
variable(x y:Rat)(w:η)
theorem yO(f)(hx:HB 17 17 x)(hy:HB 17 17 y)(h:¬(Nv x/\Nv y)):
 aE γ 231 #[Δ (bs (aO x)),Δ (bs (aO y)),f] w fun e w'=>e=σ (bT #[Δ (bs []),ω ν])/\Bw w w':=by
 have HA:=zq (fun W=>pA x W hx);have HB:=zq (fun W=>pA y W hy);by_cases qa:Nv x
 .have qb:¬Nv y:=fun c=>h ⟨qa,c⟩;rw[ip qa]at HA;rw[iN qb]at HB;clear h qa qb hx hy;go_enter X7,Uh;go_wp2_with fail
  refine ka (HA.o _) fun W1 hb1=>?_;go_wp2_with fail
  refine kc (HB.o _) (hb1.alloc hb1.size _) fun W2 hB=>?_;go_wp2;go_ret2;exact⟨rfl,hB.alloc hB.size _⟩
 .rw[iN qa]at HA;clear h qa hx hy HB;go_enter X7,Uh;go_wp2_with fail
  refine ka (HA.o _) fun W1 hb1=>?_;go_wp2;go_ret2;exact⟨rfl,hb1.alloc hb1.size _⟩
theorem wV(g N D)(hE:mV w)(qa:Nv x)(qb:Nv y)(eg:∀args w,(nU g args).run γ w=.ok (.enter g args) w)(hN:N.natAbs<10^18)(hD:D.natAbs<10^18)(h0:D≠0)(HM:∀W,aE γ g #[bQ #[Υ Ξ x.num,Υ Ξ x.den],bQ #[Υ Ξ y.num,Υ Ξ y.den]] W fun e w'=>e=σ (bQ #[Υ Ξ N,Υ Ξ D])/\Bw W w'):
 aE γ 231 #[Δ (bs (aO x)),Δ (bs (aO y)),.func (.func g) #[] #[]] w fun e w'=>e=σ (bT #[Δ (bs (aO (mkRat (JS N D) D.natAbs))),ω ι])/\Bw w w':=by
 have HA:=zq (fun W=>pA x W (qa.mono dD dD));have HB:=zq (fun W=>pA y W (qb.mono dD dD));rw[ip qa]at HA;rw[ip qb]at HB;have HN:=zq (fun(W:η)(hb:Bw w W)=>ID N D W (hE.below hb) hN hD h0);have HM:=zq HM;clear hE qa qb hN hD h0;generalize y.den=d2,y.num=n2,x.den=d1,x.num=n1 at *;go_enter X7,Uh;go_wp2_with fail
 refine ka (HA.o _) fun W1 hb1=>?_;have hq1:bE (W1.alloc (π #[Υ Ξ n1,Υ Ξ d1] 192)) W1.heap.size #[Υ Ξ n1,Υ Ξ d1] 192:=bE.new W1 _ _;go_wp2_with fail
 refine ka (HB.o _) fun W2 hb2=>?_;have hs2:=hb2.size;simp only[aL]at hs2;have mQ:=cD (hb1.alloc hb1.size _) hb2 (by simp;exact wA hb1.size);have hq1:=(hq1.below hb2 sP);have c0:=hq1.ce 0;have c1:=hq1.ce 1;have hlt:=hq1.lt;go_wp2_with fail
 refine kc (HM.o _) (mQ.alloc mQ.size _) fun W3 Ft=>?_;go_wp2_with fail
 refine kc (HN.o _ Ft) Ft fun W4 hb4=>?_;go_wp2;go_ret2;exact⟨rfl,hb4⟩
theorem IG(g lb S c)(hE:mV w)(hx:HB 17 17 x)(hy:HB 17 17 y)(eg:∀args w,(nU g args).run γ w=.ok (.enter g args) w)(HM:∀W,Bw w W->aE γ g (#[O4 x,O4 y]++lb) W fun e w'=>e=σ (bT #[Δ S,Υ Ξ c])/\Bw W w'):
 aE γ 233 #[Δ (bs (aO x)),Δ (bs (aO y)),.func (.func g) #[] lb] w fun e w'=>e=σ (bT #[Δ S,Υ Ξ c])/\Bw w w':=by
 have HA:=zq (BJ x w hE hx);have HB:=zq (fun(W:η)(h:Bw w W)=>BJ y W (hE.below h) hy);have HM:=zq HM;unfold O4 at *;clear hE hx hy;generalize bs (bR (y.den:Int))=D2,bs (bR y.num)=N2,bs (bR (x.den:Int))=D1,bs (bR x.num)=N1 at *;go_enter func233,ntmps233;go_wp2_with fail
 refine ka HA.o fun W1 hb1=>?_;have hq1:bE (W1.alloc (π #[Δ N1,Δ D1] 196)) W1.heap.size #[Δ N1,Δ D1] 196:=bE.new W1 _ _;go_wp2_with fail
 refine ka (HB.o _ (hb1.alloc hb1.size _)) fun W2 hb2=>?_;have hs2:=hb2.size;simp only[aL]at hs2;have mQ:=cD (hb1.alloc hb1.size _) hb2 (by simp;exact wA hb1.size);have hq1:=(hq1.below hb2 sP);have c0:=hq1.ce 0;have c1:=hq1.ce 1;have hlt:=hq1.lt;clear hq1 hb1 hb2 hs2;go_wp2_with fail
 refine kc (HM.o _ (mQ.alloc mQ.size _)) (mQ.alloc mQ.size _) fun W3 hb3=>?_;go_wp2;go_ret2;exact⟨rfl,hb3⟩
end
theorem JW{w W1:η}{N1 D1 N2 D2:ByteArray}(h:Below ((w.alloc (π #[Δ N1,Δ D1] 196)).alloc (π #[Δ N2,Δ D2] 196)).heap.size ((w.alloc (π #[Δ N1,Δ D1] 196)).alloc (π #[Δ N2,Δ D2] 196)) W1):
 Bw w W1/\bE W1 w.heap.size #[Δ N1,Δ D1] 196/\bE W1 (w.heap.size+1) #[Δ N2,Δ D2] 196:=by
 refine⟨cD ((nA w _).alloc sP _) h (by simp;omega),((bE.new w _ _).alloc _).below h (by simp;omega),?_⟩;have:=(bE.new (w.alloc (π #[Δ N1,Δ D1] 196)) #[Δ N2,Δ D2] 196).below h sP;rwa[aL]at this
theorem BK(w o o'):Bw w ((w.alloc o).alloc o'):=(nA w _).alloc sP _
def Cr(k a b c d:Nat)(x y:Rat):Prop:=HB a b x/\HB c d y/\0<a/\0<b/\0<c/\0<d/\a+d<=k/\c+b<=k/\b+d<=17
section
variable{k a b c d:Nat}{x y:Rat}
theorem Cr.prods(h:Cr k a b c d x y):(x.num*y.den).natAbs<10^k/\(y.num*x.den).natAbs<10^k/\((x.den:Int)*y.den).natAbs<10^17:=by
 obtain⟨h1,h2,-,-,-,-,e1,e2,e3⟩:=h;exact⟨zO k (fZ h1.1 h2.dz) e1,zO k (fZ h2.1 h1.dz) e2,zO 17 (fZ h1.dz h2.dz) e3⟩
theorem Cr.x17(h:Cr k a b c d x y)(hk:k<=17):HB 17 17 x:=by
 obtain⟨h1,h2,-,-,-,-,e1,e2,e3⟩:=h;exact h1.mono oM oM
theorem Cr.y17(h:Cr k a b c d x y)(hk:k<=17):HB 17 17 y:=by
 obtain⟨h1,h2,-,-,-,-,e1,e2,e3⟩:=h;exact h2.mono oM oM
end
section
variable{k a b c d:Nat}(x y:Rat)(w:η)(hE:mV w)
include hE
theorem U3(h:Cr 17 a b c d x y):aE γ 182 #[Δ (bs (bR x.num)),Δ (bs (bR (y.den:Int)))] w fun e w'=>e=σ (bT #[Δ (bs (bR (x.num*y.den))),Υ Ξ 0])/\Bw w w':=by
 have hp:=h.prods.1;have hx:=(h.x17 dD).1;have hy:=(h.y17 dD).dz;obtain⟨h1,h2,p1,p2,p3,p4,e1,e2,e3⟩:=h;have l1:=zY h1.1 p1;have l2:=wE h2.2 p4;exact S6 _ _ w hx hy hE oM oM
theorem ad1(h:Cr 17 a b c d x y):aE γ 182 #[Δ (bs (bR y.num)),Δ (bs (bR (x.den:Int)))] w fun e w'=>e=σ (bT #[Δ (bs (bR (y.num*x.den))),Υ Ξ 0])/\Bw w w':=
 have⟨h1,h2,p1,p2,p3,p4,e1,e2,e3⟩:=h
 U3 y x w hE ⟨h2,h1,p3,p4,p1,p2,e2,e1,oM⟩
theorem U4(h:Cr 17 a b c d x y):aE γ 182 #[Δ (bs (bR (x.den:Int))),Δ (bs (bR (y.den:Int)))] w fun e w'=>e=σ (bT #[Δ (bs (bR ((x.den:Int)*y.den))),Υ Ξ 0])/\Bw w w':=by
 have hp:=h.prods.2.2;have hx:=(h.x17 dD).dz;have hy:=(h.y17 dD).dz;obtain⟨h1,h2,p1,p2,p3,p4,e1,e2,e3⟩:=h;have l1:=wE h1.2 p2;have l2:=wE h2.2 p4;exact S6 _ _ w hx hy hE oM oM
theorem Ee(h:Cr 17 a b c d x y):
 aE γ 133 #[O4 x,O4 y] w fun e w'=>e=σ (bT #[Δ (bs (bR (x.num*y.den))),Δ (bs (bR (y.num*x.den))),Υ Ξ 0])/\Bw w w':=by
 have H1:=zq (fun(W:η)(hb:Bw w W)=>U3 x y W (hE.below hb) h);have H2:=zq (fun(W:η)(hb:Bw w W)=>ad1 x y W (hE.below hb) h);have tb:=@JW w;have Tb:=zq (fun(W1:η)=>tb (W1:=W1) (N1:=bs (bR x.num)) (D1:=bs (bR (x.den:Int))) (N2:=bs (bR y.num)) (D2:=bs (bR (y.den:Int))));clear tb h hE;unfold O4 at *;generalize bs (bR (y.den:Int))=D2,bs (bR y.num)=N2,bs (bR (x.den:Int))=D1,bs (bR x.num)=N1,bs (bR (y.num*x.den))=V,bs (bR (x.num*y.den))=U at *;go_enter func133,ntmps133;go_wp2_with fail
 refine ka (H1.o _ (BK w _ _)) fun W1 hb1=>?_;obtain⟨hB,p1,p2⟩:=Tb.o _ hb1;have c1:=p1.ce 1;have c0:=p2.ce 0;have l1:=p1.lt;have l2:=p2.lt;clear p1 p2 hb1 Tb;go_wp2_with fail
 refine kc (H2.o _ hB) hB fun W2 hb2=>?_;go_wp2;go_ret3;exact⟨rfl,hb2⟩
theorem ad2(hx:HB 17 17 x)(hy:HB 17 17 y)(hl:(bR x.num).length+(bR y.num).length<=18)(hp:(x.num*y.num).natAbs<10^17)(h:Cr 17 a b c d x y):
 aE γ 237 #[O4 x,O4 y] w fun e w'=>e=σ (bT #[Δ (bs (aO (x*y))),Υ Ξ 0])/\Bw w w':=by
 have H1:=zq (fun(W:η)(hb:Bw w W)=>S6 x.num y.num W hx.1 hy.1 (hE.below hb) hl oM);have H2:=zq (fun(W:η)(hb:Bw w W)=>U4 x y W (hE.below hb) h);have hz:(x.den:Int)*y.den≠0:=by rw[<-uJ];have:=AE x y;omega
 have HN:=zq (fun(W:η)(hb:Bw w W)=>CQ (x.num*y.num) ((x.den:Int)*y.den) W (hE.below hb) hp h.prods.2.2 hz);rw[IC,JQ]at HN;have tb:=@JW w;have Tb:=zq (fun(W1:η)=>tb (W1:=W1) (N1:=bs (bR x.num)) (D1:=bs (bR (x.den:Int))) (N2:=bs (bR y.num)) (D2:=bs (bR (y.den:Int))));clear tb h hE hz hx hy hl hp;unfold O4 at *;generalize bs (bR (y.den:Int))=D2,bs (bR y.num)=N2,bs (bR (x.den:Int))=D1,bs (bR x.num)=N1,bs (bR ((x.den:Int)*y.den))=V,bs (bR (x.num*y.num))=U at *;go_enter func237,ntmps237;go_wp2_with fail
 refine ka (H1.o _ (BK w _ _)) fun W1 hb1=>?_;obtain⟨hB,p1,p2⟩:=Tb.o _ hb1;have c1:=p1.ce 1;have c2:=p2.ce 1;have l1:=p1.lt;have l2:=p2.lt;clear p1 p2 hb1 Tb;go_wp2_with fail
 refine kc (H2.o _ hB) hB fun W2 mQ=>?_;go_wp2_with fail
 refine kc (HN.o _ mQ) mQ fun W3 hb3=>?_;go_wp2;go_ret2;exact⟨rfl,hb3⟩
theorem ad3(h:Cr 17 a b c d x y)(h0:y≠0):
 aE γ 248 #[O4 x,O4 y] w fun e w'=>e=σ (bT #[Δ (bs (aO (x/y))),Υ Ξ 0])/\Bw w w':=by
 have SY:y.num≠0:=mt Rat.num_eq_zero.1 h0;have hz:((bs (bR y.num)).toList==[48])=ν:=by rw[zX,pP];exact decide_eq_false SY
 have HC:=zq (fun(W:η)(hb:Bw w W)=>Ee x y W (hE.below hb) h);have HN:=zq (fun(W:η)(hb:Bw w W)=>CQ (x.num*y.den) (y.num*x.den) W (hE.below hb) h.prods.1 h.prods.2.1 (Pi SY (by have:=x.den_nz;omega)));rw[IB,Nd]at HN;clear hE h h0 SY;unfold O4 at *;generalize bs (bR (y.den:Int))=D2,bs (bR y.num)=N2,bs (bR (x.den:Int))=D1,bs (bR x.num)=N1,bs (bR (y.num*x.den))=V,bs (bR (x.num*y.den))=U at *;go_enter func248,ntmps248;go_wp2_with fail
 refine kc (HC.o _ (BK w _ _)) (BK w _ _) fun W1 hB=>?_;go_wp2_with fail
 refine kc (HN.o _ hB) hB fun W2 hb2=>?_;go_wp2;go_ret2;exact⟨rfl,hb2⟩
end
theorem IH(h w):
 aE γ 234 #[.func (.func h) #[] #[]] w fun e w'=>e=σ (.func (.func 260) #[] #[aB (ζ ⟨w.heap.size,0,δ⟩)])/\w'=w.alloc (π #[.func (.func h) #[] #[]] 229):=by
 go_enter func234,ntmps234;go_wp2;go_ret;exact⟨rfl,rfl⟩
section
variable{a b c d:Nat}(x y:Rat)(w:η)(hE:mV w)
include hE
theorem U5(n f B)(h:Cr 16 a b c d x y)(hn:n.natAbs<10^17)(eg:∀args w,(nU f args).run γ w=.ok (.enter f args) w)(hc:w.cell? ⟨B,0,δ⟩=ζ (.func (.func f) #[] #[]))(HM:∀W,mV W->aE γ f #[Δ (bs (bR (x.num*y.den))),Δ (bs (bR (y.num*x.den)))] W fun e w'=>e=σ (bT #[Δ (bs (bR n)),Υ Ξ 0])/\Bw W w'):
 aE γ 260 #[O4 x,O4 y,aB (ζ ⟨B,0,δ⟩)] w fun e w'=>e=σ (bT #[Δ (bs (aO (mkRat n (x.den*y.den)))),Υ Ξ 0])/\Bw w w':=by
 have h':Cr 17 a b c d x y:=⟨h.1,h.2.1,h.2.2.1,h.2.2.2.1,h.2.2.2.2.1,h.2.2.2.2.2.1,by have:=h.2.2.2.2.2.2;omega,by have:=h.2.2.2.2.2.2;omega,h.2.2.2.2.2.2.2.2⟩;have hBl:=aD w _ hc;have hcW:=zq (fun(W:η)(hb:Bw w W)=>(hb.cell (p:=⟨B,0,δ⟩) hBl).trans hc);have HC:=zq (fun(W:η)(hb:Bw w W)=>Ee x y W (hE.below hb) h');have HU:=zq (fun(W:η)(hb:Bw w W)=>HM W (hE.below hb));have H2:=zq (fun(W:η)(hb:Bw w W)=>U4 x y W (hE.below hb) h');have hz:(x.den:Int)*y.den≠0:=by rw[<-uJ];have:=AE x y;omega
 have HN:=zq (fun(W:η)(hb:Bw w W)=>CQ n ((x.den:Int)*y.den) W (hE.below hb) hn h.prods.2.2 hz);rw[IC]at HN;have tb:=@JW w;have Tb:=zq (fun(W1:η)=>tb (W1:=W1) (N1:=bs (bR x.num)) (D1:=bs (bR (x.den:Int))) (N2:=bs (bR y.num)) (D2:=bs (bR (y.den:Int))));clear hE hc HM hz tb hBl h h' hn;unfold O4 at *;generalize bs (bR (y.den:Int))=D2,bs (bR y.num)=N2,bs (bR (x.den:Int))=D1,bs (bR x.num)=N1,bs (bR n)=NN,bs (bR ((x.den:Int)*y.den))=DD,bs (bR (y.num*x.den))=V,bs (bR (x.num*y.den))=U at *;go_enter X8,ntmps260;go_wp2_with fail
 refine ka (HC.o _ (BK w _ _)) fun W1 hb1=>?_;obtain⟨hB,p1,p2⟩:=Tb.o _ hb1;have oV:=hcW.o _ hB;clear hb1 Tb HC;go_wp2_with fail
 refine ka (HU.o _ hB) fun W2 hb2=>?_;have p1:=p1.below hb2 p1.lt;have p2:=p2.below hb2 p2.lt;have mQ:=cD hB hb2 hB.size;have c1:=p1.ce 1;have c2:=p2.ce 1;have l1:=p1.lt;have l2:=p2.lt;clear p1 p2 hb2 HU oV;go_wp2_with fail
 refine kc (H2.o _ mQ) mQ fun W3 Ft=>?_;go_wp2_with fail
 refine kc (HN.o _ Ft) Ft fun W4 hb4=>?_;go_wp2;go_ret2;exact⟨rfl,hb4⟩
end
theorem L6{a b:Int}(ha:a.natAbs<10^8)(hb:b.natAbs<10^8):(a*b).natAbs<10^16:=fZ ha hb
theorem ad4(n1 d1 n2 d2 w)(h1:n1.natAbs<10^8)(h2:d1.natAbs<10^8)(h3:n2.natAbs<10^8)(h4:d2.natAbs<10^8):
 aE γ 232 #[bQ #[Υ Ξ n1,Υ Ξ d1],bQ #[Υ Ξ n2,Υ Ξ d2]] w fun e w'=>e=σ (bQ #[Υ Ξ (n1*d2+n2*d1),Υ Ξ (d1*d2)])/\Bw w w':=by
 have p0:=L6 h1 h4;have w0:IntKind.i64.wrap (n1*d2)=n1*d2:=aM _ oM;have p1:=L6 h3 h2;have w1:IntKind.i64.wrap (n2*d1)=n2*d1:=aM _ oM;have p2:=L6 h2 h4;have w2:IntKind.i64.wrap (d1*d2)=d1*d2:=aM _ oM;have ws:IntKind.i64.wrap (n1*d2+n2*d1)=n1*d2+n2*d1:=aM _ oM;clear h1 h2 h3 h4 p0 p1 p2;go_enter func232,ntmps232;go_wp2;exact cU (v:=bQ #[Υ Ξ (n1*d2+n2*d1),Υ Ξ (d1*d2)]) (by simp[gP,Tryz.results232,go_sem]) rfl ⟨rfl,((nA w _).alloc sP _).alloc (by simp;omega) _⟩
theorem ad5(n1 d1 n2 d2 w)(h1:n1.natAbs<10^8)(h2:d1.natAbs<10^8)(h3:n2.natAbs<10^8)(h4:d2.natAbs<10^8):
 aE γ 238 #[bQ #[Υ Ξ n1,Υ Ξ d1],bQ #[Υ Ξ n2,Υ Ξ d2]] w fun e w'=>e=σ (bQ #[Υ Ξ (n1*d2-n2*d1),Υ Ξ (d1*d2)])/\Bw w w':=by
 have p0:=L6 h1 h4;have w0:IntKind.i64.wrap (n1*d2)=n1*d2:=aM _ oM;have p1:=L6 h3 h2;have w1:IntKind.i64.wrap (n2*d1)=n2*d1:=aM _ oM;have p2:=L6 h2 h4;have w2:IntKind.i64.wrap (d1*d2)=d1*d2:=aM _ oM;have ws:IntKind.i64.wrap (n1*d2-n2*d1)=n1*d2-n2*d1:=aM _ oM;clear h1 h2 h3 h4 p0 p1 p2;go_enter func238,ntmps238;go_wp2;exact cU (v:=bQ #[Υ Ξ (n1*d2-n2*d1),Υ Ξ (d1*d2)]) (by simp[gP,Tryz.results238,go_sem]) rfl ⟨rfl,((nA w _).alloc sP _).alloc (by simp;omega) _⟩
theorem ad6(n1 d1 n2 d2 w)(h1:n1.natAbs<10^8)(h2:d1.natAbs<10^8)(h3:n2.natAbs<10^8)(h4:d2.natAbs<10^8):
 aE γ 236 #[bQ #[Υ Ξ n1,Υ Ξ d1],bQ #[Υ Ξ n2,Υ Ξ d2]] w fun e w'=>e=σ (bQ #[Υ Ξ (n1*n2),Υ Ξ (d1*d2)])/\Bw w w':=by
 have p0:=L6 h1 h3;have w0:IntKind.i64.wrap (n1*n2)=n1*n2:=aM _ oM;have p1:=L6 h2 h4;have w1:IntKind.i64.wrap (d1*d2)=d1*d2:=aM _ oM;clear h1 h2 h3 h4 p0 p1;go_enter func236,ntmps236;go_wp2;exact cU (v:=bQ #[Υ Ξ (n1*n2),Υ Ξ (d1*d2)]) (by simp[gP,Tryz.results236,go_sem]) rfl ⟨rfl,((nA w _).alloc sP _).alloc (by simp;omega) _⟩
theorem ad7(n1 d1 n2 d2 w)(h1:n1.natAbs<10^8)(h2:d1.natAbs<10^8)(h3:n2.natAbs<10^8)(h4:d2.natAbs<10^8):
 aE γ 247 #[bQ #[Υ Ξ n1,Υ Ξ d1],bQ #[Υ Ξ n2,Υ Ξ d2]] w fun e w'=>e=σ (bQ #[Υ Ξ (n1*d2),Υ Ξ (d1*n2)])/\Bw w w':=by
 have p0:=L6 h1 h4;have w0:IntKind.i64.wrap (n1*d2)=n1*d2:=aM _ oM;have p1:=L6 h2 h3;have w1:IntKind.i64.wrap (d1*n2)=d1*n2:=aM _ oM;clear h1 h2 h3 h4 p0 p1;go_enter func247,ntmps247;go_wp2;exact cU (v:=bQ #[Υ Ξ (n1*d2),Υ Ξ (d1*n2)]) (by simp[gP,Tryz.results247,go_sem]) rfl ⟨rfl,((nA w _).alloc sP _).alloc (by simp;omega) _⟩
section
variable{a b c d:Nat}(x y:Rat)(w:η)(hE:mV w)
include hE
theorem ay4(h:Cr 16 a b c d x y):
 aE γ 200 #[Δ (bs (aO x)),Δ (bs (aO y))] w fun e w'=>e=σ (bT #[Δ (bs (aO (x+y))),Υ Ξ 0])/\Bw w w':=by
 obtain⟨u1,u2,u3⟩:=h.prods;have hz:(x.den:Int)*y.den≠0:=by rw[<-uJ];have:=AE x y;omega
 by_cases hq:Nv x/\Nv y
 .have HQ:=zq (wV x y w 232 _ _ hE hq.1 hq.2 (iC func232 kF rfl) oM oM hz (fun W=>ad4 _ _ _ _ W hq.1.1 hq.1.dz hq.2.1 hq.2.dz));rw[IC,JO]at HQ;clear h hE u1 u2 u3 hz hq;generalize bs (aO (x+y))=T at *;go_enter func200,ntmps200;go_wp2_with fail
  refine ka HQ.o fun W1 hb1=>?_;go_wp2;go_ret2;exact⟨rfl,hb1⟩
 .have h1:=h.x17 dD;have h2:=h.y17 dD;have HQ:=zq (yO x y w (.func (.func 232) #[] #[]) h1 h2 hq);have HC:=zq (fun W=>IH 235 W);have HB:=zq (fun(W:η)(hW:Bw w W)=>IG x y (W.alloc (π #[.func (.func 235) #[] #[]] 229)) 260 #[aB (ζ ⟨W.heap.size,0,δ⟩)] _ _ ((hE.below hW).below (nA W _)) h1 h2 (iC X8 kF rfl)
   (fun V hV=>U5 x y V (((hE.below hW).below (nA W _)).below hV) (x.num*y.den+y.num*x.den) 235 W.heap.size h oM (iC func235 kF rfl)
    ((hV.cell (p:=⟨W.heap.size,0,δ⟩) sP).trans ((bE.new W _ _).cell 0)) (fun U hU=>ax9 _ _ U oM oM hU)))
  rw[JO]at HB;clear h hE u1 u2 u3 hz hq h1 h2;generalize bs (aO (x+y))=T at *;go_enter func200,ntmps200;go_wp2_with fail
  refine ka HQ.o fun W1 hb1=>?_;go_wp2_with fail
  refine(HC.o _).mono ?_;rintro e W2⟨rfl,rfl⟩;go_wp2_with fail
  refine kc (HB.o _ hb1) (hb1.alloc hb1.size _) fun W3 hb3=>?_;go_wp2;go_ret2;exact⟨rfl,hb3⟩
theorem ay5(h:Cr 16 a b c d x y):
 aE γ 202 #[Δ (bs (aO x)),Δ (bs (aO y))] w fun e w'=>e=σ (bT #[Δ (bs (aO (x-y))),Υ Ξ 0])/\Bw w w':=by
 obtain⟨u1,u2,u3⟩:=h.prods;have hz:(x.den:Int)*y.den≠0:=by rw[<-uJ];have:=AE x y;omega
 by_cases hq:Nv x/\Nv y
 .have HQ:=zq (wV x y w 238 _ _ hE hq.1 hq.2 (iC func238 kF rfl) oM oM hz (fun W=>ad5 _ _ _ _ W hq.1.1 hq.1.dz hq.2.1 hq.2.dz));rw[IC,JP]at HQ;clear h hE u1 u2 u3 hz hq;generalize bs (aO (x-y))=T at *;go_enter func202,ntmps202;go_wp2_with fail
  refine ka HQ.o fun W1 hb1=>?_;go_wp2;go_ret2;exact⟨rfl,hb1⟩
 .have h1:=h.x17 dD;have h2:=h.y17 dD;have HQ:=zq (yO x y w (.func (.func 238) #[] #[]) h1 h2 hq);have HC:=zq (fun W=>IH 239 W);have HB:=zq (fun(W:η)(hW:Bw w W)=>IG x y (W.alloc (π #[.func (.func 239) #[] #[]] 229)) 260 #[aB (ζ ⟨W.heap.size,0,δ⟩)] _ _ ((hE.below hW).below (nA W _)) h1 h2 (iC X8 kF rfl)
   (fun V hV=>U5 x y V (((hE.below hW).below (nA W _)).below hV) (x.num*y.den-y.num*x.den) 239 W.heap.size h oM (iC func239 kF rfl)
    ((hV.cell (p:=⟨W.heap.size,0,δ⟩) sP).trans ((bE.new W _ _).cell 0)) (fun U hU=>ay0 _ _ U oM oM hU)))
  rw[JP]at HB;clear h hE u1 u2 u3 hz hq h1 h2;generalize bs (aO (x-y))=T at *;go_enter func202,ntmps202;go_wp2_with fail
  refine ka HQ.o fun W1 hb1=>?_;go_wp2_with fail
  refine(HC.o _).mono ?_;rintro e W2⟨rfl,rfl⟩;go_wp2_with fail
  refine kc (HB.o _ hb1) (hb1.alloc hb1.size _) fun W3 hb3=>?_;go_wp2;go_ret2;exact⟨rfl,hb3⟩
def Mu(a b c d:Nat)(x y:Rat):Prop:=HB a b x/\HB c d y/\0<a/\0<b/\0<c/\0<d/\a+c<=16/\b+d<=17/\a+d<=17/\c+b<=17
theorem ay6(hm:Mu a b c d x y):
 aE γ 201 #[Δ (bs (aO x)),Δ (bs (aO y))] w fun e w'=>e=σ (bT #[Δ (bs (aO (x*y))),Υ Ξ 0])/\Bw w w':=by
 obtain⟨g1,g2,p1,p2,p3,p4,e1,e2,e3,e4⟩:=hm;have h:Cr 17 a b c d x y:=⟨g1,g2,p1,p2,p3,p4,e3,e4,e2⟩;have u3:=h.prods.2.2;have u1:=zO 16 (fZ g1.1 g2.1) e1;have hz:(x.den:Int)*y.den≠0:=by rw[<-uJ];have:=AE x y;omega
 have l1:=zY g1.1 p1;have l2:=zY g2.1 p3;by_cases hq:Nv x/\Nv y
 .have HQ:=zq (wV x y w 236 _ _ hE hq.1 hq.2 (iC func236 kF rfl) oM oM hz (fun W=>ad6 _ _ _ _ W hq.1.1 hq.1.dz hq.2.1 hq.2.dz));rw[IC,JQ]at HQ;clear h hE u1 u3 hz hq g1 g2 l1 l2;generalize bs (aO (x*y))=T at *;go_enter func201,ntmps201;go_wp2_with fail
  refine ka HQ.o fun W1 hb1=>?_;go_wp2;go_ret2;exact⟨rfl,hb1⟩
 .have h1:=h.x17 dD;have h2:=h.y17 dD;have HQ:=zq (yO x y w (.func (.func 236) #[] #[]) h1 h2 hq);have HB:=zq (fun(W:η)(hW:Bw w W)=>IG x y W 237 #[] _ _ (hE.below hW) h1 h2 (iC func237 kF rfl)
   (fun V hV=>ad2 x y V ((hE.below hW).below hV) h1 h2 oM oM h))
  clear h hE u1 u3 hz hq h1 h2 g1 g2 l1 l2;generalize bs (aO (x*y))=T at *;go_enter func201,ntmps201;go_wp2_with fail
  refine ka HQ.o fun W1 hb1=>?_;go_wp2_with fail
  refine kc (HB.o _ hb1) hb1 fun W3 hb3=>?_;go_wp2;go_ret2;exact⟨rfl,hb3⟩
theorem ay7(h:Cr 17 a b c d x y)(h0:y≠0):
 aE γ 217 #[Δ (bs (aO x)),Δ (bs (aO y))] w fun e w'=>e=σ (bT #[Δ (bs (aO (x/y))),Υ Ξ 0])/\Bw w w':=by
 have SY:y.num≠0:=mt Rat.num_eq_zero.1 h0;have hs:((bs (aO y)).toList==[48])=ν:=by
  rw[zX,beq_eq_false_iff_ne];intro e;have:y=(0:Int):=by
   apply ac5;rw[e,aO,ip (Fj 0),vK,SX]
  exact h0 (by simpa using this)
 by_cases hq:Nv x/\Nv y
 .have hz:(x.den:Int)*y.num≠0:=Pi (by have:=x.den_nz;omega) SY;have u1:=L6 hq.1.1 hq.2.dz;have u2:=L6 hq.1.dz hq.2.1;have HQ:=zq (wV x y w 247 _ _ hE hq.1 hq.2 (iC func247 kF rfl) oM oM hz (fun W=>ad7 _ _ _ _ W hq.1.1 hq.1.dz hq.2.1 hq.2.dz));rw[Int.mul_comm (x.den:Int),IB,Nd]at HQ;clear h hE u1 u2 hz hq SY h0;generalize bs (aO (x/y))=T at *;go_enter func217,ntmps217;go_wp2_with fail
  refine ka HQ.o fun W1 hb1=>?_;go_wp2;go_ret2;exact⟨rfl,hb1⟩
 .have h1:=h.x17 dD;have h2:=h.y17 dD;have HQ:=zq (yO x y w (.func (.func 247) #[] #[]) h1 h2 hq);have HB:=zq (fun(W:η)(hW:Bw w W)=>IG x y W 248 #[] _ _ (hE.below hW) h1 h2 (iC func248 kF rfl)
   (fun V hV=>ad3 x y V ((hE.below hW).below hV) h h0))
  clear h hE hq h1 h2 SY h0;generalize bs (aO (x/y))=T at *;go_enter func217,ntmps217;go_wp2_with fail
  refine ka HQ.o fun W1 hb1=>?_;go_wp2_with fail
  refine kc (HB.o _ hb1) hb1 fun W3 hb3=>?_;go_wp2;go_ret2;exact⟨rfl,hb3⟩
theorem Lk(h:Cr 17 a b c d x y):
 aE γ 85 #[Δ (bs (aO x)),Δ (bs (aO y))] w fun e w'=>e=σ (bT #[Υ Ξ (mT x y),Υ Ξ 0])/\Bw w w':=by
 obtain⟨u1,u2,u3⟩:=h.prods;have h1:=h.x17 dD;have h2:=h.y17 dD;rw[ac6];have HA:=zq (fun W=>pA x W h1);have HB:=zq (fun W=>pA y W h2);have HRA:=zq (fun(W:η)(hW:Bw w W)=>BJ x W (hE.below hW) h1);have ql:=zq (fun(W:η)(hW:Bw w W)=>BJ y W (hE.below hW) h2);have HX:=zq (fun(W:η)(hW:Bw w W)=>Ee x y W (hE.below hW) h);have HC:=zq (fun(W:η)(hW:Bw w W)=>UX _ _ W u1 u2 (hE.below hW));by_cases hq:Nv x/\Nv y
 .rw[ip hq.1]at HA;rw[ip hq.2]at HB;have HC:=zq (fun W=>Lf (x.num*y.den) (y.num*x.den) W);have w1:IntKind.i64.wrap (x.num*(y.den:Int))=x.num*(y.den:Int):=aM _ oM;have w2:IntKind.i64.wrap (y.num*(x.den:Int))=y.num*(x.den:Int):=aM _ oM;rw[Ed]at HC;clear h hE u1 u2 u3 hq h1 h2 HRA ql HX;generalize y.den=d2,y.num=n2,x.den=d1,x.num=n1 at *;go_enter dl,X9;go_wp2_with fail
  refine ka (HA.o _) fun W1 hb1=>?_;have hq1:bE (W1.alloc (π #[Υ Ξ n1,Υ Ξ d1] 192)) W1.heap.size #[Υ Ξ n1,Υ Ξ d1] 192:=bE.new W1 _ _;go_wp2_with fail
  refine ka (HB.o _) fun W2 hb2=>?_;have hs2:=hb2.size;simp only[aL]at hs2;have mQ:=cD (hb1.alloc hb1.size _) hb2 (by simp;exact wA hb1.size);have hq1:=(hq1.below hb2 sP);have c0:=hq1.ce 0;have c1:=hq1.ce 1;have hlt:=hq1.lt;go_wp2_with fail
  refine kr (HC.o _) ?_;go_wp2;go_ret2;exact⟨rfl,mQ.alloc mQ.size _⟩
 .unfold O4 at *;generalize bs (bR (y.den:Int))=D2,bs (bR y.num)=N2,bs (bR (x.den:Int))=D1,bs (bR x.num)=N1,bs (bR (y.num*x.den))=V,bs (bR (x.num*y.den))=U at *;by_cases qa:Nv x
  .have qb:¬Nv y:=fun k=>hq ⟨qa,k⟩;rw[ip qa]at HA;rw[iN qb]at HB;clear h hE u1 u2 u3 hq h1 h2 qa qb;go_enter dl,X9;go_wp2_with fail
   refine ka (HA.o _) fun W1 hb1=>?_;go_wp2_with fail
   refine kc (HB.o _) (hb1.alloc hb1.size _) fun W2 mQ=>?_;replace mQ:=mQ.alloc mQ.size (π #[Υ Ξ 0,Υ Ξ 0] 192);go_wp2_with fail
   refine kc (HRA.o _ mQ) mQ fun W3 Ft=>?_;have q1:bE (W3.alloc (π #[Δ N1,Δ D1] 196)) W3.heap.size #[Δ N1,Δ D1] 196:=bE.new W3 _ _;go_wp2_with fail
   refine ka (ql.o _ (Ft.alloc Ft.size _)) fun W4 hb4=>?_;have Qu:=cD (Ft.alloc Ft.size _) hb4 (by simp;exact wA Ft.size);have q1:=q1.below hb4 sP;have c0:=q1.ce 0;have c1:=q1.ce 1;have l1:=q1.lt;clear q1 hb4;go_wp2_with fail
   refine kc (HX.o _ (Qu.alloc Qu.size _)) (Qu.alloc Qu.size _) fun W5 hB5=>?_;go_wp2_with fail
   refine kc (HC.o _ hB5) hB5 fun W6 hb6=>?_;go_wp2;go_ret2;exact⟨rfl,hb6⟩
  .rw[iN qa]at HA;clear h hE u1 u2 u3 hq h1 h2 qa HB;go_enter dl,X9;go_wp2_with fail
   refine ka (HA.o _) fun W1 hb1=>?_;replace hb1:=hb1.alloc hb1.size (π #[Υ Ξ 0,Υ Ξ 0] 192);go_wp2_with fail
   refine kc (HRA.o _ hb1) hb1 fun W3 Ft=>?_;have q1:bE (W3.alloc (π #[Δ N1,Δ D1] 196)) W3.heap.size #[Δ N1,Δ D1] 196:=bE.new W3 _ _;go_wp2_with fail
   refine ka (ql.o _ (Ft.alloc Ft.size _)) fun W4 hb4=>?_;have Qu:=cD (Ft.alloc Ft.size _) hb4 (by simp;exact wA Ft.size);have q1:=q1.below hb4 sP;have c0:=q1.ce 0;have c1:=q1.ce 1;have l1:=q1.lt;clear q1 hb4;go_wp2_with fail
   refine kc (HX.o _ (Qu.alloc Qu.size _)) (Qu.alloc Qu.size _) fun W5 hB5=>?_;go_wp2_with fail
   refine kc (HC.o _ hB5) hB5 fun W6 hb6=>?_;go_wp2;go_ret2;exact⟨rfl,hb6⟩
end
end
end Go.Proofs.YtncclggcfgnhpaaGreatDoor
