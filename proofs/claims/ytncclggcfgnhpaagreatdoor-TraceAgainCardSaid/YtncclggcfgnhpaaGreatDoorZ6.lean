import Derived.Test.YtncclggcfgnhpaaGreatDoorZ5
namespace Go.Proofs.YtncclggcfgnhpaaGreatDoor
set_option maxRecDepth 100000
set_option maxHeartbeats 8000000
set_option linter.all false
open Go.Proofs.Tryz
open _root_.Array renaming replicate_succ->bG,replicate_zero->bH
open _root_.Bool renaming true->ι,false->ν,and_eq_true->aI,not_eq_true'->bX,true_and->iO,or_eq_false_iff->jA,false_or->nZ,eq_iff_iff->oC,not_eq_false'->vS,false_and->wT,and_false->Bk,or_assoc->Up
open _root_.Go renaming World->η,Value->χ,undef->ψ,Calls->aE,Addr->bW,Program->cQ,TypeId->cS,bodyPost_ret->cU,below_drewN->dO,Oper->eZ,results->gP,KeepsFrom->iB,run_takeDeferred->iD,results_tmp->iH,Act->iS,Operand->mC,wpAnyIn_done->mL,grownBy_putObj'->pX,ownFrom_below->qO,FuncId->vP,OwnFrom->zM,wpList->Dk,Ending->Fg,Fence->Jy
open Go.Act renaming put->oQ
open Go.AllReadyIn renaming nil->dW
open Go.Ending renaming returned->σ
open Go.Fence renaming wide->eD
open Go.IntKind renaming i64->Ξ
open Go.IntWalk renaming i64_in->aM
open Go.KeepsOthers renaming setCell->dA
open Go.Obj renaming cells->π
open Go.Oper renaming semAt_some->eQ
open Go.OwnFrom renaming and->eJ
open Go.Proofs renaming enters_of->iC
open Go.Proofs.Tryz renaming prog->γ,results94->Qj,results99->Qk,ntmps130->Uo,func130->Yf
open Go.RowKit renaming intOf->ξ,Hid->aQ
open Go.RowKit.Below renaming refl->μ
open Go.Value renaming slice->Θ,int->Υ,bool->ω,pointer->aB,agg->bQ,tuple->bT
open Go.World renaming block_lt_of_cell?->aD,size_alloc->aL
open _root_.Inhabited renaming default->Γ
open _root_.Int renaming tmod_eq_emod_of_nonneg->kO,mul_nonneg->qI,le_refl->AV,mul_le_mul->Cy
open _root_.List renaming getD_eq_getElem?_getD->Ω,length_cons->aC,length_append->aJ,getElem?_eq_getElem->aS,getElem?_cons_zero->aU,setIfInBounds_toArray->aX,length_nil->bB,getElem?_toArray->bC,size_toArray->bI,cons_append->bV,append_toArray->bN,mem_cons_self->bO,set_cons_zero->bU,mem_cons_of_mem->cC,push_toArray->cE,range->cI,nil_append->cM,getElem?_cons_succ->cO,set_cons_succ->cR,map_append->dV,getElem?_append_right->fA,flatMap_cons->gS,getElem?_append_left->nQ,getElem?_eq_none->nW,range_succ->sB
open _root_.List.Pairwise renaming nil->Fm
open _root_.Nat renaming le_refl->θ,le_trans->aA,mod_eq_of_lt->aT,zero_le->aP,mod_lt->aV,zero_add->bD,reduceAdd->cL,lt_of_lt_of_le->cN,reduceSub->dF,le_of_lt->fM,lt_or_ge->fO,add_zero->jN,le_of_eq->qU,zero_mul->vO,lt_succ_self->Fk,le_succ->Jq
open _root_.Option renaming none->δ,some->ζ
variable{w w' W W' w1 w2:η}{a:Option bW}{i k N r s B l D c E e size cap hs ca:Nat}{P:cQ}{u0 u1 u2 u3 u4 v1 v2 z:χ}{T T1 T2 ty:cS}{A:Int}{c1 c2 cs:Array χ}{p:bW}{F:Jy}{fn:Func}{Ds:List Nat}{β:Type}{xs:List χ}{row:Option Nat}{X Y:ByteArray}
section
open Go Go.RowKit Go.Lib
structure Sd where
 x:Int
 y:Int
 rise:Int
 run:Int
 gable:Bool
 plate:Int
 over:Int
abbrev Sd.cells(s:Sd):Array χ:=#[Υ Ξ s.x,Υ Ξ s.y,Υ Ξ s.rise,Υ Ξ s.run,ω s.gable,Υ Ξ s.plate,Υ Ξ s.over]
abbrev Sd.v(s:Sd):χ:=bQ s.cells
instance:Inhabited Sd:=⟨⟨0,0,0,0,ν,0,0⟩⟩
structure Rg where
 a:Option bW
 cap:Nat
 ss:List Sd
def Rg.v(l:Rg):χ:=Θ l.a l.ss.length l.cap
instance:Inhabited Rg:=⟨⟨δ,0,[]⟩⟩
def mJ(W:η)(a:Option bW)(ss:List Sd):Prop:=
 ∀i,i<ss.length->∃b off,a=ζ ⟨b,off,δ⟩/\∀j,j<7->W.cell? ⟨b,off+i*7+j,δ⟩=ζ ((ss.getD i Γ).cells.getD j ψ)
def GB(W:η)(a:Option bW)(rs:List Rg):Prop:=
 ∀i,i<rs.length->∃b off,a=ζ ⟨b,off,δ⟩/\W.cell? ⟨b,off+i,δ⟩=ζ (rs.getD i Γ).v/\mJ W (rs.getD i Γ).a (rs.getD i Γ).ss
theorem mJ.below{ss:List Sd}(h:mJ w a ss)(hb:Bw w w'):mJ w' a ss:=by
 intro i hi;obtain⟨b,off,rfl,hc⟩:=h i hi;exact⟨b,off,rfl,fun j hj=>(hb.cell (p:=⟨b,off+i*7+j,δ⟩) (aD w _ (hc j hj))).trans (hc j hj)⟩
theorem GB.below{rs:List Rg}(h:GB w a rs)(hb:Bw w w'):GB w' a rs:=by
 intro i hi;obtain⟨b,off,rfl,hc,hp⟩:=h i hi;exact⟨b,off,rfl,(hb.cell (p:=⟨b,off+i,δ⟩) (aD w _ hc)).trans hc,hp.below hb⟩
theorem mJ.at{ss:List Sd}(h:mJ w a ss)(hi:i<ss.length){s:Sd}(hs:ss.getD i Γ=s):∃b off,a=ζ ⟨b,off,δ⟩/\
 w.cell? ⟨b,off+i*7,δ⟩=ζ (Υ Ξ s.x)/\w.cell? ⟨b,off+i*7+1,δ⟩=ζ (Υ Ξ s.y)/\w.cell? ⟨b,off+i*7+2,δ⟩=ζ (Υ Ξ s.rise)/\
 w.cell? ⟨b,off+i*7+3,δ⟩=ζ (Υ Ξ s.run)/\w.cell? ⟨b,off+i*7+4,δ⟩=ζ (ω s.gable)/\w.cell? ⟨b,off+i*7+5,δ⟩=ζ (Υ Ξ s.plate)/\w.cell? ⟨b,off+i*7+6,δ⟩=ζ (Υ Ξ s.over):=by
 obtain⟨b,off,rfl,hc⟩:=h i hi;subst hs;exact⟨b,off,rfl,hc 0 dD,hc 1 dD,hc 2 dD,hc 3 dD,hc 4 dD,hc 5 dD,hc 6 dD⟩
theorem GB.at{rs:List Rg}(h:GB w a rs)(hi:i<rs.length){l:Rg}(hl:rs.getD i Γ=l):∃b off,a=ζ ⟨b,off,δ⟩/\
 w.cell? ⟨b,off+i,δ⟩=ζ (Θ l.a l.ss.length l.cap)/\mJ w l.a l.ss:=by
 obtain⟨b,off,rfl,hc,hp⟩:=h i hi;subst hl;exact⟨b,off,rfl,hc,hp⟩
def Dr(w W:η):Prop:=∃n,W=w.drewN n
theorem Dr.refl(w):Dr w w:=⟨0,rfl⟩
theorem Dr.drewN(w n):Dr w (w.drewN n):=⟨n,rfl⟩
theorem Dr.trans{a b c:η}(h:Dr a b)(k:Dr b c):Dr a c:=by
 obtain⟨n,rfl⟩:=h;obtain⟨m,rfl⟩:=k;exact⟨n+m,by rw[World.drewN_drewN]⟩
theorem Dr.below{a b:η}(h:Dr a b):Bw a b:=by
 obtain⟨n,rfl⟩:=h;exact dO (μ _ _) n
theorem qb{f:vP}{ar:Array χ}{v:χ}(H:aE P f ar W fun e w'=>e=σ v/\Dr W w'):aE P f ar W (Rt (v) W):=
 H.mono fun _ _⟨h,k⟩=>⟨h,k.below⟩
def fR(l:List Sd)(i:Nat):Sd:=l.getD ((i+1)%l.length) Γ
def pre(n i:Nat):Nat:=(i+n-1)%n
def C8(l:List Sd):Prop:=∀i,0<=(l.getD i Γ).x/\(l.getD i Γ).x<=65536/\0<=(l.getD i Γ).y/\(l.getD i Γ).y<=65536
def sgI(n:Int):Int:=if n<0 then -1 else if 0<n then 1 else 0
def Dq(l:List Sd)(i:Nat):Int:=sgI ((fR l i).x-(l.getD i Γ).x)
def dY(l:List Sd)(i:Nat):Int:=sgI ((fR l i).y-(l.getD i Γ).y)
def UB(l:List Sd)(i:Nat):Int:=Dq l (pre l.length i)*dY l i-dY l (pre l.length i)*Dq l i
theorem rY(n):-1<=sgI n/\sgI n<=1:=by
 unfold sgI;split
 .omega
 .split <;>omega
theorem KA{n:Nat}(h:i<n):pre n i<n:=aV _ oM
theorem MD(k n:Nat):((k:Int)+1).tmod (n:Int)=(((k+1)%n:Nat):Int):=by
 rw[kO oM];push_cast;rfl
theorem Oc{n:Nat}(h:k<n):((k:Int)+(n:Int)-1).tmod (n:Int)=((pre n k:Nat):Int):=by
 rw[kO oM];unfold pre;rw[show(k:Int)+(n:Int)-1=((k+n-1:Nat):Int) by omega];rfl
theorem am4(n w):aE γ 130 #[Υ Ξ n] w fun e w'=>e=σ (Υ Ξ (sgI n))/\w=w':=by
 by_cases h:n<0
 .have E:aQ (sgI n= -1):=ip h;go_enter Yf,Uo;go_wp2;go_ret;exact⟨by rw[E.o]<;>rfl,rfl⟩
 .by_cases h2:0<n
  .have E:aQ (sgI n=1):=by show _=_;rw[sgI,iN h,ip h2]
   go_enter Yf,Uo;go_wp2;go_ret;exact⟨by rw[E.o]<;>rfl,rfl⟩
  .have E:aQ (sgI n=0):=by show _=_;rw[sgI,iN h,iN h2]
   go_enter Yf,Uo;go_wp2;go_ret;exact⟨by rw[E.o]<;>rfl,rfl⟩
theorem Od(a n cap i l w)(hl:l.length=n)(hn:n<=1000000)(hi:i<n)(r:mJ w a l):
 aE γ 129 #[Θ a n cap,Υ Ξ (i:Int)] w fun e w'=>e=σ (bT #[Υ Ξ (fR l i).x,Υ Ξ (fR l i).y])/\Dr w w':=by
 have hm:(i+1)%n<n:=aV _ oM;obtain⟨b,o,rfl,c0,c1,-⟩:=r.at (i:=(i+1)%n) oM (s:=fR l i) (by unfold fR;rw[hl]);have ht:=MD i n;generalize fR l i=q at *;generalize(i+1)%n=m at *;clear r hl;go_enter func129,ntmps129;go_wp2;go_quiet (fail)
 go_wp2;go_ret2;exact⟨rfl,.drewN _ _⟩
theorem TL(a n cap i l w)(hl:l.length=n)(hn:n<=1000000)(hi:i<n)(r:mJ w a l):
 aE γ 129 #[Θ a n cap,Υ Ξ (i:Int)] w (Rt (bT #[Υ Ξ (fR l i).x,Υ Ξ (fR l i).y]) w):=qb (Od a n cap i l w hl hn hi r)
theorem A8(a n cap i l w)(hl:l.length=n)(hn:n<=1000000)(hi:i<n)(hC:C8 l)(r:mJ w a l):
 aE γ 80 #[Θ a n cap,Υ Ξ (i:Int)] w (Rt (bT #[Υ Ξ (Dq l i),Υ Ξ (dY l i)]) w):=by
 have HE:=zq (TL a n cap i l w hl hn hi r);have HS:=zq am4;obtain⟨b,o,rfl,c0,c1,-⟩:=r.at (i:=i) oM rfl;have h1:=hC i;have h2:=hC ((i+1)%l.length);rw[show l.getD ((i+1)%l.length) Γ=fR l i from rfl]at h2;have EX:aQ (sgI ((fR l i).x-(l.getD i Γ).x)=Dq l i):=rfl;have EY:aQ (sgI ((fR l i).y-(l.getD i Γ).y)=dY l i):=rfl;generalize dY l i=DY,Dq l i=DX,l.getD i Γ=s,fR l i=q at *;obtain⟨x1,x2,x3,x4⟩:=h1;obtain⟨y1,y2,y3,y4⟩:=h2;clear r hl hC;go_enter func80,ntmps80;go_wp2_with fail
 refine ka HE.o fun W hb=>?_;have c0:=aY hb c0;have c1:=aY hb c1;have HB:=zq hb;clear hb HE;go_wp2;have e1:IntKind.i64.wrap (q.x-s.x)=q.x-s.x:=aM _ oM;have e2:IntKind.i64.wrap (q.y-s.y)=q.y-s.y:=aM _ oM;go_quiet ((go_at_call 130;exact Calls.quiet_of_same ((HS.o _ _).mono fun e w'⟨h1,h2⟩=>⟨h1,h2.symm⟩)))
 clear e1 e2;go_wp2;go_ret2;exact⟨by rw[EX.o,EY.o]<;>rfl,dO HB.o _⟩
theorem Wz(a n cap i l w)(hl:l.length=n)(hn:n<=1000000)(hi:i<n)(hC:C8 l)(r:mJ w a l):
 aE γ 81 #[Θ a n cap,Υ Ξ (i:Int)] w (Rt (Υ Ξ (UB l i)) w):=by
 have H1:=zq (A8 a n cap (pre n i) l w hl hn (KA hi) hC r);have H2:=zq (fun W(hW:Bw w W)=>A8 a n cap i l W hl hn hi hC (r.below hW));have E:aQ (UB l i=Dq l (pre n i)*dY l i-dY l (pre n i)*Dq l i):=by show _=_;rw[<-hl];rfl
 have ht:=Oc hi;have b1:∀u v:Int,-1<=u/\u<=1->-1<=v/\v<=1->-1<=u*v/\u*v<=1:=fun u v h k=>by
  obtain rfl|rfl|rfl:u= -1\/u=0\/u=1:=oM;all_goals omega
 have g1:=b1 (Dq l (pre n i)) (dY l i) (rY _) (rY _);have g2:=b1 (dY l (pre n i)) (Dq l i) (rY _) (rY _);generalize pre n i=m,UB l i=T,dY l i=D,Dq l i=C,dY l (pre n i)=B,Dq l (pre n i)=A at *;clear r hl hC b1;go_enter func81,ntmps81;go_wp2_with fail
 refine ka H1.o fun W hb=>?_;go_wp2_with fail
 refine ka (H2.o _ hb) fun W2 hb2=>?_;have HB:=zq (cD (μ _ w|>.trans hb) hb2 hb.size);clear hb hb2 H1 H2;go_wp2;go_ret;exact⟨by rw[E.o]<;>rfl,HB.o⟩
def outI(n f t:Int):Bool:=decide (n<f)||decide (t<n)
theorem WE(n f t w):aE γ 79 #[Υ Ξ n,Υ Ξ f,Υ Ξ t] w fun e w'=>e=σ (ω (outI n f t))/\w=w':=by
 have E:aQ (outI n f t=(decide (n<f)||decide (t<n))):=rfl;cases h:decide (n<f)
 .rw[h,nZ]at E;go_enter func79,ntmps79;go_wp2;go_ret;exact⟨by rw[E.o]<;>rfl,rfl⟩
 .rw[h,Bool.true_or]at E;go_enter func79,ntmps79;go_wp2;go_ret;exact⟨by rw[E.o]<;>rfl,rfl⟩
def yT(s:Sd):Bool:=!(outI s.x 0 65536||(outI s.y 0 65536||(outI s.plate 0 65536||outI s.over 0 65536)))&&(if s.gable=ι then(s.rise==0)&&(s.run==0)else !outI s.rise 1 48&& !outI s.run 1 48)
theorem Dt{b:Nat}{u5 u6:χ}(h:bE W b #[u0,u1,u2,u3,u4,u5,u6] T):W.cell? ⟨b,0,δ⟩=ζ u0/\W.cell? ⟨b,1,δ⟩=ζ u1/\W.cell? ⟨b,2,δ⟩=ζ u2/\W.cell? ⟨b,3,δ⟩=ζ u3/\W.cell? ⟨b,4,δ⟩=ζ u4/\W.cell? ⟨b,5,δ⟩=ζ u5/\W.cell? ⟨b,6,δ⟩=ζ u6:=⟨h.cell 0,h.cell 1,h.cell 2,h.cell 3,h.cell 4,h.cell 5,h.cell 6⟩
theorem ZX(s w):aE γ 32 #[s.v] w (Rt (ω (yT s)) w):=by
 obtain⟨x,y,rise,run,gable,plate,over⟩:=s;have E:aQ (yT ⟨x,y,rise,run,gable,plate,over⟩=(!(outI x 0 65536||(outI y 0 65536||(outI plate 0 65536||outI over 0 65536)))&&(if gable=ι then(rise==0)&&(run==0)else !outI rise 1 48&& !outI run 1 48))):=rfl;have HO:=zq WE;generalize yT ⟨x,y,rise,run,gable,plate,over⟩=R at *;have H1:=zq (fun W=>HO.o x 0 65536 W);have H2:=zq (fun W=>HO.o y 0 65536 W);have H3:=zq (fun W=>HO.o plate 0 65536 W);have H4:=zq (fun W=>HO.o over 0 65536 W);have H5:=zq (fun W=>HO.o rise 1 48 W);have H6:=zq (fun W=>HO.o run 1 48 W);generalize outI run 1 48=b6,outI rise 1 48=b5,outI over 0 65536=b4,outI plate 0 65536=b3,outI y 0 65536=b2,outI x 0 65536=b1 at *;clear HO;have HB:=zq (nA w (π #[Υ Ξ x,Υ Ξ y,Υ Ξ rise,Υ Ξ run,ω gable,Υ Ξ plate,Υ Ξ over] 84));have hx:aQ ((b1=ι\/b1=ν/\b2=ι\/b1=ν/\b2=ν/\b3=ι\/b1=ν/\b2=ν/\b3=ν/\b4=ι)/\R=ν\/b1=ν/\b2=ν/\b3=ν/\b4=ν/\(gable=ι/\((rise==0)=ν/\R=ν\/rise=0/\R=(run==0))\/gable=ν/\(b5=ι/\R=ν\/b5=ν/\R= !b6))):=by
  show _\/_;rw[E.o];cases b1<;>cases b2<;>cases b3<;>cases b4<;>cases gable<;>cases b5<;>by_cases h:rise=0<;>simp[h]
 clear E;unfold Sd.v Sd.cells;simp only[];go_enter func32,ntmps32;rcases hx.o with⟨(rfl|⟨rfl,rfl⟩|⟨rfl,rfl,rfl⟩|⟨rfl,rfl,rfl,rfl⟩),rfl⟩|⟨rfl,rfl,rfl,rfl,(⟨rfl,(⟨h,rfl⟩|⟨rfl,rfl⟩)⟩|⟨rfl,(⟨rfl,rfl⟩|⟨rfl,rfl⟩)⟩)⟩;all_goals
  clear hx;go_wp2_with (first
   |((with_reducible refine(H1.o _).mono ?_);rintro e w1 ⟨rfl,rfl⟩)
   |((with_reducible refine(H2.o _).mono ?_);rintro e w1 ⟨rfl,rfl⟩)
   |((with_reducible refine(H3.o _).mono ?_);rintro e w1 ⟨rfl,rfl⟩)
   |((with_reducible refine(H4.o _).mono ?_);rintro e w1 ⟨rfl,rfl⟩)
   |((with_reducible refine(H5.o _).mono ?_);rintro e w1 ⟨rfl,rfl⟩)
   |((with_reducible refine(H6.o _).mono ?_);rintro e w1 ⟨rfl,rfl⟩)
   |fail)
  go_ret;exact⟨rfl,HB.o⟩
theorem TM{a b:Int}(h1:0<=a)(h2:a<=65536)(h3:0<=b)(h4:b<=65536):0<=a*b/\a*b<=4294967296:=
 ⟨qI h1 h3,by have:=Cy h2 h4 h3 (by decide:(0:Int)<=65536);omega⟩
def rZ(l:List Sd):Nat->Int
 |0=>0
 |k+1=>rZ l k+(l.getD k Γ).x*(fR l k).y-(fR l k).x*(l.getD k Γ).y
theorem MG{l:List Sd}(hC:C8 l):∀k:Nat,-(4294967296*(k:Int))<=rZ l k/\rZ l k<=4294967296*(k:Int)
 |0=>⟨AV _,AV _⟩
 |k+1=>by
  have:=MG hC k
  obtain⟨a1,a2,a3,a4⟩:=hC k
  obtain⟨b1,b2,b3,b4⟩:=hC ((k+1)%l.length)
  have h1:=TM a1 a2 b3 b4
  have h2:=TM b1 b2 a3 a4
  have e:rZ l (k+1)=rZ l k+(l.getD k Γ).x*(l.getD ((k+1)%l.length) Γ).y-(l.getD ((k+1)%l.length) Γ).x*(l.getD k Γ).y:=rfl
  rw[e]
  generalize(l.getD k Γ).x*(l.getD ((k+1)%l.length) Γ).y=p at *
  generalize(l.getD ((k+1)%l.length) Γ).x*(l.getD k Γ).y=q at *
  generalize rZ l k=t at *
  push_cast
  omega
theorem ve(a n cap l w)(hl:l.length=n)(hn:n<=1000)(hC:C8 l)(r:mJ w a l):
 aE γ 83 #[Θ a n cap] w fun e w'=>e=σ (Υ Ξ (rZ l n))/\Dr w w':=by
 have HE:=zq (fun k (hk:k < n) W (hW:Dr w W)=>Od a n cap k l W hl oM hk (r.below hW.below));have HC:=zq hC;have HR:=zq r;have HL:=zq hl;clear hC r hl;go_enter func83,ntmps83;go_wp2;go_loopw [3,4] (fun t i wr=>∃ k:Nat,i=Υ Ξ k/\t=Υ Ξ (rZ l k)/\k<=n/\aQ (Dr w wr)) (fun _ i _=>n - (ξ i).toNat);case atStart=>exact⟨0,rfl,rfl,aP _,Dr.refl w⟩
 case round=>
  obtain⟨k,rfl,rfl,hk,HB⟩:=hrel;by_cases hlt:k < n
  .have HEk:=zq (HE.o k hlt _ HB.o);obtain⟨b,o,rfl,-⟩:=HR.o.at (i:=k) (by rw [HL.o];exact hlt) rfl;obtain⟨a1,a2,a3,a4⟩:=HC.o k;obtain⟨b1,b2,b3,b4⟩:=HC.o ((k+1) % l.length);rw [show l.getD ((k+1) % l.length) Γ=fR l k from rfl] at b1 b2 b3 b4;have ET:aQ (rZ l (k+1)=rZ l k+(l.getD k Γ).x * (fR l k).y - (fR l k).x * (l.getD k Γ).y):=rfl;have hb:=MG HC.o k;have m1:=TM a1 a2 b3 b4;have m2:=TM b1 b2 a3 a4;obtain⟨s,hs⟩:=nm (l.getD k Γ);rw [hs] at a1 a2 a3 a4 m1 m2 ET;have Hs:=zq hs;clear hs a1 a2 a3 a4 b1 b2 b3 b4;generalize fR l k=q,rZ l k=t at *;go_wp2_with fail
   refine ka HEk.o fun W hb1=>?_;have eG:=zq (HB.o.trans hb1);obtain⟨b',o',e1,c0,c1,-⟩:=(HR.o.below eG.o.below).at (i:=k) (by rw [HL.o];exact hlt) Hs.o;injection e1 with e1;injection e1 with e1 e2;subst e1 e2;clear hb1 HEk HB;go_wp2;have e1:IntKind.i64.wrap (s.x * q.y)=s.x * q.y:=aM _ oM;have e2:IntKind.i64.wrap (t+s.x * q.y)=t+s.x * q.y:=aM _ oM;have e3:IntKind.i64.wrap (q.x * s.y)=q.x * s.y:=aM _ oM;have e4:IntKind.i64.wrap (t+s.x * q.y - q.x * s.y)=t+s.x * q.y - q.x * s.y:=aM _ oM;go_quiet (fail)
   clear e1 e2 e3 e4;go_wp2;go_roundw;case rel=>exact⟨k+1,by go_num,by rw [ET.o],oM,eG.o.trans (.drewN _ _)⟩
   case measure=>simp only [ξ];omega
  .obtain rfl:n=k:=oM;go_wp2;go_ret;exact⟨rfl,HB.o⟩
def xP(l:List Sd)(i:Nat):Bool:=!decide (Dq l i*Dq l i+dY l i*dY l i=1)||decide (UB l i=0)
def pE(l:List Sd):Bool:=!anyN (xP l) l.length&&decide (4<=l.length)
theorem ZY(a n cap l w)(hl:l.length=n)(hn:n<=1000)(hC:C8 l)(r:mJ w a l):
 aE γ 33 #[Θ a n cap] w (Rt (ω (pE l)) w):=by
 have HD:=zq (fun k(hk:k<n)W(hW:Bw w W)=>A8 a n cap k l W hl oM hk hC (r.below hW));have HT:=zq (fun k(hk:k<n)W(hW:Bw w W)=>Wz a n cap k l W hl oM hk hC (r.below hW));have R1:aQ (∀k,k<n->xP l k=ι->pE l=ν):=fun k hk h=>by unfold pE;rw[hl,eF.2 ⟨k,hk,h⟩];rfl
 have R2:aQ (anyN (xP l) n=ν->pE l=decide (4<=n)):=fun h=>by unfold pE;rw[hl,h];rfl
 clear hC r hl;generalize pE l=R at *;go_enter func33,ntmps33;go_wp2;go_loopw[3] (fun i wr=>∃k:Nat,i=Υ Ξ k/\k<=n/\aQ (anyN (xP l) k=ν)/\aQ (Bw w wr)) (fun i _=>n-(ξ i).toNat);case atStart=>exact⟨0,rfl,aP _,rfl,μ _ w⟩
 case round=>
  obtain⟨k,rfl,hk,HA,HB⟩:=hrel;by_cases hlt:k<n
  .have HDk:=zq (HD.o k hlt _ HB.o);have HTk:=zq (HT.o k hlt);have S1:=zq (R1.o k hlt);have S2:=zq (fun h:xP l k=ν=>iA HA.o h);have hx:-1<=Dq l k/\Dq l k<=1:=rY _;have hy:-1<=dY l k/\dY l k<=1:=rY _;have E:aQ (xP l k=(!decide (Dq l k*Dq l k+dY l k*dY l k=1)||decide (UB l k=0))):=rfl;have px:0<=Dq l k*Dq l k/\Dq l k*Dq l k<=1:=by
    obtain h|h|h:Dq l k= -1\/Dq l k=0\/Dq l k=1:=oM;all_goals rw[h];decide
   have py:0<=dY l k*dY l k/\dY l k*dY l k<=1:=by
    obtain h|h|h:dY l k= -1\/dY l k=0\/dY l k=1:=oM;all_goals rw[h];decide
   generalize UB l k=T,dY l k=Y,Dq l k=X,xP l k=B at *;go_wp2_with fail
   refine kb HDk.o HB.o fun W eG=>?_;clear HDk HB;by_cases h1:X*X+Y*Y=1
   .have h1':(X*X+Y*Y !=1)=ν:=by simp[h1]
    have bv1:((X*X+Y*Y)==1)=ι:=by simp[h1]
    rw[decide_eq_true h1,Bool.not_true,nZ]at E;clear h1;go_wp2_with fail
    refine kb (HTk.o _ eG.o) eG.o fun W2 eU=>?_;by_cases h2:T=0
    .subst h2;have e1:=zq (S1.o (by rw[E.o];rfl));go_wp2;go_ret;exact⟨by rw[e1.o]<;>rfl,eU.o⟩
    .have e1:=zq (S2.o (by rw[E.o,decide_eq_false h2]));have h2':(T==0)=ν:=by simp[h2]
     go_wp2;go_roundw;case rel=>exact⟨k+1,by go_num,oM,e1.o,eU.o⟩
     case measure=>simp only[ξ];omega
   .have h1':(X*X+Y*Y !=1)=ι:=by simp[h1]
    have e1:=zq (S1.o (by rw[E.o,decide_eq_false h1];rfl));clear h1;go_wp2;go_ret;exact⟨by rw[e1.o]<;>rfl,eG.o⟩
  .obtain rfl:n=k:=oM;have e1:=zq (R2.o HA.o);go_wp2;go_ret;exact⟨by rw[e1.o]<;>first |rfl|(congr 2;simp;omega),HB.o⟩
def DB(a b:Int):Int:=if b<a then b else a
def DC(a b:Int):Int:=if a<b then b else a
def aD2(a p b q:Sd):Bool:=decide (DB a.x p.x<=DC b.x q.x)&&(decide (DB b.x q.x<=DC a.x p.x)&&(decide (DB a.y p.y<=DC b.y q.y)&&decide (DB b.y q.y<=DC a.y p.y)))
def Me(l:List Sd)(i:Nat)(m:List Sd)(k:Nat):Bool:=aD2 (l.getD i Γ) (fR l i) (m.getD k Γ) (fR m k)
theorem C9{x y:Int}(h:(if y<x then y else x)=A):min x y=A:=by rw[<-h];simp only[Int.min_def];split <;>split <;>omega
theorem Da{x y:Int}(h:(if x<y then y else x)=A):max x y=A:=by rw[<-h];simp only[Int.max_def];split <;>split <;>omega
theorem vg(a b n ca m cb i k l r w)(hl:l.length=n)(hr:r.length=m)(hn:n<=1000000)(hm:m<=1000000)(hi:i<n)(hk:k<m)(rl:mJ w a l)(rr:mJ w b r):
 aE γ 82 #[Θ a n ca,Υ Ξ (i:Int),Θ b m cb,Υ Ξ (k:Int)] w (Rt (ω (Me l i r k)) w):=by
 have H1:=zq (TL a n ca i l w hl hn hi rl);have H2:=zq (fun W(hW:Bw w W)=>TL b m cb k r W hr hm hk (rr.below hW));obtain⟨b1,o1,rfl,c0,c1,-⟩:=rl.at (i:=i) oM rfl;obtain⟨b2,o2,rfl,d0,d1,-⟩:=rr.at (i:=k) oM rfl;have E:aQ (Me l i r k=aD2 (l.getD i Γ) (fR l i) (r.getD k Γ) (fR r k)):=rfl;generalize fR r k=q,r.getD k Γ=t,fR l i=p,l.getD i Γ=s,Me l i r k=T at *;obtain⟨A1,Yw⟩:=nm ((if p.x<s.x then p.x else s.x));obtain⟨A2,hA2⟩:=nm ((if s.x<p.x then p.x else s.x));obtain⟨A3,hA3⟩:=nm ((if p.y<s.y then p.y else s.y));obtain⟨A4,hA4⟩:=nm ((if s.y<p.y then p.y else s.y));obtain⟨B1,Ig⟩:=nm ((if q.x<t.x then q.x else t.x));obtain⟨B2,mQ⟩:=nm ((if t.x<q.x then q.x else t.x));obtain⟨B3,Ft⟩:=nm ((if q.y<t.y then q.y else t.y));obtain⟨B4,Qu⟩:=nm ((if t.y<q.y then q.y else t.y));replace E:aQ (T=(decide (A1<=B2)&&(decide (B1<=A2)&&(decide (A3<=B4)&&decide (B3<=A4))))):=by
  rw[<-Yw,<-hA2,<-hA3,<-hA4,<-Ig,<-mQ,<-Ft,<-Qu];exact E
 have mA1:=C9 Yw;have mA2:=Da hA2;have mA3:=C9 hA3;have mA4:=Da hA4;have mB1:=C9 Ig;have mB2:=Da mQ;have mB3:=C9 Ft;have mB4:=Da Qu;clear rl rr hl hr;go_enter func82,ntmps82;go_wp2_with fail
 refine ka H1.o fun W hb=>?_;go_wp2_with fail
 refine ka (H2.o _ hb) fun W2 hb2=>?_;have HB:=zq (cD (μ _ w|>.trans hb) hb2 hb.size);have c0:=aY HB.o c0;have c1:=aY HB.o c1;have d0:=aY HB.o d0;have d1:=aY HB.o d1;clear hb hb2 H1 H2;have hx:aQ ((A1<=B2)=False/\T=ν\/A1<=B2/\(B1<=A2)=False/\T=ν\/A1<=B2/\B1<=A2/\(A3<=B4)=False/\T=ν\/A1<=B2/\B1<=A2/\A3<=B4/\T=decide (B3<=A4)):=by
  rw[E.o];show _\/_;by_cases h1:A1<=B2<;>by_cases h2:B1<=A2<;>by_cases h3:A3<=B4<;>simp only[h1,h2,h3,decide_true,decide_false,iO,wT,true_and,false_and,and_true,and_false,or_true,or_false,false_or,true_or,eq_self_iff_true,not_true,not_false_eq_true]
 clear E;rcases hx.o with⟨h1,rfl⟩|⟨h1,h2,rfl⟩|⟨h1,h2,h3,rfl⟩|⟨h1,h2,h3,rfl⟩;all_goals
  clear hx;go_wp2;simp only[List.append_eq,bV,cM];go_quiet (fail)
  go_wp2;go_ret;exact⟨rfl,dO HB.o _⟩
def vh(r s i k n:Nat):Bool:=decide (r=s)&&(decide (k<=i)||(decide (k=i+1)||(decide (i=0)&&decide (k+1=n))))
def Mf(f:Nat->List Sd)(r i s k:Nat):Bool:=!vh r s i k (f r).length&&Me (f r) i (f s) k
def ZZ(f:Nat->List Sd)(r i s:Nat):Bool:=decide (r<=s)&&anyN (Mf f r i s) (f s).length
def aD3(f:Nat->List Sd)(N r i:Nat):Bool:=anyN (ZZ f r i) N
def am5(f:Nat->List Sd)(N r:Nat):Bool:=anyN (aD3 f N r) (f r).length
def EO(f:Nat->List Sd)(N:Nat):Bool:=anyN (am5 f N) N
theorem MH{f:Nat->List Sd}(hr:r<N)(hi:i<(f r).length)(hs:s<N)(h:r<=s)(hk:k<(f s).length)(h4:Mf f r i s k=ι):EO f N=ι:=
 eF.2 ⟨r,hr,eF.2 ⟨i,hi,eF.2 ⟨s,hs,by unfold ZZ;rw[decide_eq_true h,eF.2 ⟨k,hk,h4⟩];rfl⟩⟩⟩
theorem Db{a b:Int}{p:Prop}[Decidable p](h:a=b↔p):(a==b)=decide p:=by rw[oC,beq_iff_eq,decide_eq_true_iff];exact h
def aF(rs:List Rg)(r:Nat):List Sd:=(rs.getD r Γ).ss
theorem WG(a N cap rs w)(hl:rs.length=N)(hN:N<=1000)(hn:∀ r,(aF rs r).length<=1000)(rr:GB w a rs):
 aE γ 34 #[Θ a N cap] w (Rt (ω (EO (aF rs) N)) w):=by
 have HT:=zq (fun r i s k (_:r < N) (_:s < N) (hi:i < (aF rs r).length) (hk:k < (aF rs s).length) W (hW:Bw w W)=>
  vg (rs.getD r Γ).a (rs.getD s Γ).a (aF rs r).length (rs.getD r Γ).cap (aF rs s).length (rs.getD s Γ).cap i k (aF rs r) (aF rs s) W rfl rfl (by have:=hn r;omega) (by have:=hn s;omega) hi hk
   ((rr.below hW).at (i:=r) oM rfl).choose_spec.choose_spec.2.2 ((rr.below hW).at (i:=s) oM rfl).choose_spec.choose_spec.2.2)
 have HR:=zq rr;have HL:=zq hl;have HN:=zq hn;have HX:aQ (∀ r i s k,r < N->i < (aF rs r).length->s < N->r<=s->k < (aF rs s).length->Mf (aF rs) r i s k=ι->EO (aF rs) N=ι):=fun r i s k h1 h2 h3 h4 h5 h6=>MH h1 h2 h3 h4 h5 h6;have HX0:aQ (anyN (am5 (aF rs) N) N=ν->EO (aF rs) N=ν):=fun h=>h;clear hl rr hn;generalize EO (aF rs) N=R at *;go_enter func34,ntmps34;go_wp2;go_loopw [3] (fun i wr=>∃ r:Nat,i=Υ Ξ r/\r<=N/\aQ (anyN (am5 (aF rs) N) r=ν)/\aQ (Bw w wr)) (fun i _=>N - (ξ i).toNat);case atStart=>exact⟨0,rfl,aP _,rfl,μ _ w⟩
 case round=>
  obtain⟨r,rfl,hr,HA,HB⟩:=hrel;rename η=>wr;by_cases hrN:r < N
  .obtain⟨b,o,rfl,c0,-⟩:=(HR.o.below HB.o).at (i:=r) (by rw [HL.o];exact hrN) rfl;have LB:=HN.o r;obtain⟨n,LD⟩:=nm (aF rs r).length;have bg7:(rs.getD r Γ).ss.length=n:=LD;rw [bg7] at c0;rw [LD] at LB;have Uz:=zq LD;have hrI:(r:Int) < N:=oM;clear LD bg7;have HA0:aQ (anyN (aD3 (aF rs) N r) 0=ν):=rfl;go_wp2;go_loopw [4] (fun i wi=>∃ q:Nat,i=Υ Ξ q/\q<=n/\aQ (anyN (aD3 (aF rs) N r) q=ν)/\aQ (Bw wr wi)) (fun i _=>n - (ξ i).toNat);case atStart=>exact⟨0,rfl,aP _,HA0.o,μ _ wr⟩
   case round=>
    obtain⟨i,rfl,hi,Uw,eG⟩:=hrel;rename η=>wi;have c0:=aY eG.o c0;by_cases hin:i < n
    .have HA0:aQ (anyN (ZZ (aF rs) r i) r=ν):=by
      show _=_;rw [bJ];intro s hs;unfold ZZ;rw [decide_eq_false oM];rfl
     go_wp2;go_loopw [5] (fun j ws=>∃ s:Nat,j=Υ Ξ s/\r<=s/\s<=N/\aQ (anyN (ZZ (aF rs) r i) s=ν)/\aQ (Bw wr ws)) (fun i _=>N - (ξ i).toNat);case atStart=>exact⟨r,rfl,θ _,hr,HA0.o,eG.o⟩
     case round=>
      obtain⟨s,rfl,hrs,hs,PA,eU⟩:=hrel;rename η=>ws;clear c0;by_cases hsN:s < N
      .obtain⟨b',o',e1,d0,-⟩:=(HR.o.below (aW HB.o eU.o)).at (i:=s) (by rw [HL.o];exact hsN) rfl;injection e1 with e1;injection e1 with e1 e2;subst e1 e2;obtain⟨b',o',e1,c0,-⟩:=(HR.o.below (aW HB.o eU.o)).at (i:=r) (by rw [HL.o];exact hrN) rfl;injection e1 with e1;injection e1 with e1 e2;subst e1 e2;rw [show(rs.getD r Γ).ss.length=n from Uz.o] at c0;have hn2:=HN.o s;obtain⟨m,L7⟩:=nm (aF rs s).length;have bg8:(rs.getD s Γ).ss.length=m:=L7;rw [bg8] at d0;rw [L7] at hn2;have HMl:=zq L7;have hsI:(s:Int) < N:=oM;clear L7 bg8;have HA0:aQ (anyN (Mf (aF rs) r i s) 0=ν):=rfl;go_wp2;go_loopw [6] (fun j wk=>∃ k:Nat,j=Υ Ξ k/\k<=m/\aQ (anyN (Mf (aF rs) r i s) k=ν)/\aQ (Bw ws wk)) (fun i _=>m - (ξ i).toNat);case atStart=>exact⟨0,rfl,aP _,HA0.o,μ _ ws⟩
       case round=>
        obtain⟨k,rfl,hk,HA3,HB3⟩:=hrel;rename η=>wk;have c0:=aY HB3.o c0;have d0:=aY HB3.o d0;by_cases hkm:k < m
        .have wF:=zq (aW HB.o (aW eU.o HB3.o));have HTk:=zq (HT.o r i s k hrN hsN (by rw [Uz.o];exact hin) (by rw [HMl.o];exact hkm) wk.drew wF.o.drew);rw [Uz.o,HMl.o] at HTk;have E:aQ (Mf (aF rs) r i s k=(!vh r s i k n && Me (aF rs r) i (aF rs s) k)):=by show _=_;rw [<- Uz.o];rfl
         have X1:=zq (HX.o r i s k hrN (by rw [Uz.o];exact hin) hsN hrs (by rw [HMl.o];exact hkm));have X2:=zq (fun h:Mf (aF rs) r i s k=ν=>iA HA3.o h);have iz:=zq (aW eU.o HB3.o);generalize (rs.getD s Γ).cap=cs,(rs.getD r Γ).cap=cr,(rs.getD s Γ).a=as',(rs.getD r Γ).a=ar,Mf (aF rs) r i s k=C,Me (aF rs r) i (aF rs s) k=T at *;have hx:aQ ((((r:Int)==(s:Int))=ν\/((r:Int)==(s:Int))=ι/\¬ k<=i/\((k:Int)==(i:Int)+1)=ν/\(((i:Int)==0)=ν\/((i:Int)==0)=ι/\((k:Int)==(n:Int) - 1)=ν))/\C=T\/
          (((r:Int)==(s:Int))=ι/\(k<=i\/¬ k<=i/\(((k:Int)==(i:Int)+1)=ι\/((k:Int)==(i:Int)+1)=ν/\((i:Int)==0)=ι/\((k:Int)==(n:Int) - 1)=ι)))/\C=ν):=by
          show _\/_;rw [E.o];unfold vh;rw [Db (a:=(r:Int)) (b:=s) (p:=r=s) oM,Db (a:=(k:Int)) (b:=(i:Int)+1) (p:=k=i+1) oM,Db (a:=(i:Int)) (b:=0) (p:=i=0) oM,Db (a:=(k:Int)) (b:=(n:Int) - 1) (p:=k+1=n) oM];by_cases g:k<=i
          .cases decide (r=s) <;> simp [g]
          .cases decide (r=s) <;> cases decide (k=i+1) <;> cases decide (i=0) <;> cases decide (k+1=n) <;> simp [g]
         clear E;rcases hx.o with ⟨hq,rfl⟩ | ⟨hq,rfl⟩
         .rcases hq with h1 | ⟨h1,h2,h3,(h4 | ⟨h4,h5⟩)⟩;all_goals
           clear hx;go_wp2;go_still_tail 10,kF;change Dk _ _ _ _ _ wk.drew;have Yr:=zq iz.o.drew;have Ln:=zq HB3.o.drew;generalize wk.drew=W2 at *;go_wp2_with fail
           refine ka HTk.o fun W3 hb=>?_;have HBe:=Yr.bS hb;have HBy:=Ln.bS hb;have HBz:=zq (aW HB.o HBe.o);clear hb HTk;cases C with
           | true=>
            have e1:=zq (X1.o rfl);go_wp2;go_ret;exact⟨by rw [e1.o] <;> rfl,HBz.o⟩
           | false=>
            have e1:=zq (X2.o rfl);go_wp2;go_roundw;case rel=>exact⟨k+1,by go_num,oM,e1.o,HBy.o⟩
            case measure=>simp only [ξ];omega
         .have e1:=zq (X2.o rfl);rcases hq with ⟨h1,(h2 | ⟨h2,(h3 | ⟨h3,h4,h5⟩)⟩)⟩;all_goals
           clear hx;go_wp2;go_roundw;case rel=>exact⟨k+1,by go_num,oM,e1.o,HB3.o⟩
           case measure=>simp only [ξ];omega
        .obtain rfl:m=k:=oM;have e1:=zq (iA (p:=ZZ (aF rs) r i) PA.o (by unfold ZZ;rw [HMl.o,HA3.o,Bk]));go_wp2;go_roundw;case rel=>exact⟨s+1,by go_num,oM,oM,e1.o,aW eU.o HB3.o⟩
         case measure=>simp only [ξ];omega
      .obtain rfl:N=s:=oM;have e1:=zq (iA (p:=aD3 (aF rs) N r) Uw.o PA.o);go_wp2;go_roundw;case rel=>exact⟨i+1,by go_num,oM,e1.o,eU.o⟩
       case measure=>simp only [ξ];omega
    .obtain rfl:n=i:=oM;have e1:=zq (iA (p:=am5 (aF rs) N) HA.o (by unfold am5;rw [Uz.o];exact Uw.o));go_wp2;go_roundw;case rel=>exact⟨r+1,by go_num,oM,e1.o,aW HB.o eG.o⟩
     case measure=>simp only [ξ];omega
  .obtain rfl:N=r:=oM;have e1:=zq (HX0.o HA.o);go_wp2;go_ret;exact⟨by rw [e1.o] <;> rfl,HB.o⟩
def am6(a b:Sd):Bool:=a.gable||(b.gable||a.plate !=b.plate)
def GC(l:List Sd)(i:Nat):Bool:=decide (UB l i<0)&&am6 (l.getD (pre l.length i) Γ) (l.getD i Γ)
def Oe(f:Nat->List Sd)(r:Nat):Bool:=anyN (GC (f r)) (f r).length
def DE(l:List Sd)(i:Nat):Bool:=!(l.getD i Γ).gable
def Dc(f:Nat->List Sd)(r:Nat):Bool:=anyN (DE (f r)) (f r).length
def G8(f:Nat->List Sd)(N:Nat):Bool:=!anyN (Oe f) N&&anyN (Dc f) N
theorem KB:bE ((w.alloc (π c1 T1)).alloc (π c2 T2)).drew w.heap.size c1 T1/\bE ((w.alloc (π c1 T1)).alloc (π c2 T2)).drew (w.heap.size+1) c2 T2/\Bw w ((w.alloc (π c1 T1)).alloc (π c2 T2)).drew:=by
 have:=bE.new (w.alloc (π c1 T1)) c2 T2;rw[aL]at this;exact⟨(bE.new w _ _).alloc _,this,((nA _ _).alloc sP _).drew⟩
theorem Z1(a N cap rs w)(hl:rs.length=N)(hN:N<=1000)(hn:∀ r,(aF rs r).length<=1000)(hC:∀ r,C8 (aF rs r))(rr:GB w a rs):
 aE γ 36 #[Θ a N cap] w (Rt (ω (G8 (aF rs) N)) w):=by
 have HT:=zq (fun r i (_:r < N) (hi:i < (aF rs r).length) W (hW:Bw w W)=>Wz (rs.getD r Γ).a (aF rs r).length (rs.getD r Γ).cap i (aF rs r) W rfl (by have:=hn r;omega) hi (hC r) ((rr.below hW).at (i:=r) oM rfl).choose_spec.choose_spec.2.2);have HR:=zq rr;have HL:=zq hl;have HN:=zq hn;have X1:aQ (∀ r,r < N->Oe (aF rs) r=ι->G8 (aF rs) N=ν):=fun r hr h=>by unfold G8;rw [eF.2 ⟨r,hr,h⟩];rfl
 have X2:aQ (anyN (Oe (aF rs)) N=ν->G8 (aF rs) N=anyN (Dc (aF rs)) N):=fun h=>by unfold G8;rw [h];rfl
 clear hl rr hn hC;generalize G8 (aF rs) N=R at *;go_enter func36,ntmps36;go_wp2;go_loopw [3,4] (fun t i wr=>∃ r:Nat,i=Υ Ξ r/\t=ω (anyN (Dc (aF rs)) r)/\r<=N/\aQ (anyN (Oe (aF rs)) r=ν)/\aQ (Bw w wr)) (fun _ i _=>N - (ξ i).toNat);case atStart=>exact⟨0,rfl,rfl,aP _,rfl,μ _ w⟩
 case round=>
  obtain⟨r,rfl,rfl,hr,HA,HB⟩:=hrel;rename η=>wr;by_cases hrN:r < N
  .obtain⟨b,o,rfl,c0,RD⟩:=(HR.o.below HB.o).at (i:=r) (by rw [HL.o];exact hrN) rfl;have GD:=zq RD;clear RD;have LB:=HN.o r;have Ka:=zq (HT.o r);have X1r:=zq (X1.o r hrN);have X3:=zq (fun h:Oe (aF rs) r=ν=>iA (p:=Oe (aF rs)) HA.o h);have E1:aQ (Oe (aF rs) r=anyN (GC (aF rs r)) (aF rs r).length):=rfl;have E2:aQ (anyN (Dc (aF rs)) (r+1)=(anyN (Dc (aF rs)) r || anyN (DE (aF rs r)) (aF rs r).length)):=rfl;rw [show(rs.getD r Γ).ss.length=(aF rs r).length from rfl] at c0;rw [show(rs.getD r Γ).ss=aF rs r from rfl] at GD;obtain⟨S2,hS2⟩:=nm (anyN (Dc (aF rs)) (r+1));have HS2:=zq hS2;rw [hS2] at E2;clear hS2;generalize (rs.getD r Γ).cap=cr,(rs.getD r Γ).a=ar,anyN (Dc (aF rs)) r=S1 at *;have E3:aQ (∀ i,GC (aF rs r) i=(decide (UB (aF rs r) i < 0) && am6 ((aF rs r).getD (pre (aF rs r).length i) Γ) ((aF rs r).getD i Γ))):=fun i=>rfl;generalize aF rs r=l at *;obtain⟨n,hn⟩:=nm l.length;have Hn:=zq hn;rw [hn] at c0 LB Ka E1 E2 E3;clear hn;have hrI:(r:Int) < N:=oM;have HZ:aQ (S1=(S1 || anyN (DE l) 0)):=by show _=_;simp [anyN]
   go_wp2;go_loopw [3,6] (fun t i wi=>∃ k:Nat,i=Υ Ξ k/\t=ω (S1 || anyN (DE l) k)/\k<=n/\aQ (anyN (GC l) k=ν)/\aQ (Bw wr wi)) (fun _ i _=>n - (ξ i).toNat);case atStart=>exact⟨0,rfl,by rw [<- HZ.o],aP _,rfl,μ _ wr⟩
   case round=>
    obtain⟨k,rfl,rfl,hk,PA,eU⟩:=hrel;rename η=>wi;by_cases hkn:k < n
    .have HTk:=zq (Ka.o k hrN hkn);have hpk:=KA hkn;have htm:=Oc hkn;have E3k:=zq (E3.o k);have X4:=zq (fun h:GC l k=ι=>X1r.o (by rw [E1.o];exact eF.2 ⟨k,hkn,h⟩));have X5:=zq (fun h:GC l k=ν=>iA (p:=GC l) PA.o h);have E4:aQ ((S1 || anyN (DE l) (k+1))=((S1 || anyN (DE l) k) || !(l.getD k Γ).gable)):=by show _=_;rw [anyN,Up];rfl
     obtain⟨S4,hS4⟩:=nm (S1 || anyN (DE l) (k+1));have HS4:=zq hS4;rw [hS4] at E4;clear hS4;generalize (S1 || anyN (DE l) k)=S3 at *;obtain⟨pb,po,rfl,f0,f1,f2,f3,f4,f5,f6⟩:=(GD.o.below eU.o).at (i:=pre n k) (by rw [Hn.o];exact hpk) rfl;obtain⟨pb',po',e1,g0,g1,g2,g3,g4,g5,g6⟩:=(GD.o.below eU.o).at (i:=k) (by rw [Hn.o];exact hkn) rfl;injection e1 with e1;injection e1 with e1 e2;subst e1 e2;generalize l.getD (pre n k) Γ=p,l.getD k Γ=q at *;obtain⟨p0,p1,p2,p3,p4,p5,p6⟩:=p;obtain⟨q0,q1,q2,q3,q4,q5,q6⟩:=q;simp only [] at f0 f1 f2 f3 f4 f5 f6 g0 g1 g2 g3 g4 g5 g6;replace E3k:aQ (GC l k=(decide (UB l k < 0) && (p4 || (q4 || p5 !=q5)))):=E3k;replace E4:aQ (S4=(S3 || !q4)):=E4;generalize pre n k=m,UB l k=T,GC l k=B at *;have lpb:pb < wi.heap.size:=aD wi ⟨pb,_,δ⟩ f0;have FV:=zq (aW HB.o eU.o);go_wp2;have w1:IntKind.i64.wrap ((k:Int)+n)=(k:Int)+n:=aM _ oM;have w2:IntKind.i64.wrap ((k:Int)+n - 1)=(k:Int)+n - 1:=aM _ oM;have w3:(m:Int) < n:=oM;have w4:(0:Int)<=(m:Int):=oM;have w5:((n:Int)==0)=ν:=by rw [beq_eq_false_iff_ne];omega
     have w6:(0:Int) < n:=oM;have w7:¬ n=0:=oM;have w8:¬ ((n:Int)=0):=oM;go_cut [7,8] (fun u v W=>∃ g h,u=aB (ζ ⟨g,0,δ⟩)/\v=aB (ζ ⟨h,0,δ⟩)/\aQ (bE W g #[Υ Ξ p0,Υ Ξ p1,Υ Ξ p2,Υ Ξ p3,ω p4,Υ Ξ p5,Υ Ξ p6] 84)/\aQ (bE W h #[Υ Ξ q0,Υ Ξ q1,Υ Ξ q2,Υ Ξ q3,ω q4,Υ Ξ q5,Υ Ξ q6] 84)/\aQ (Bw wi W));case first=>
      go_region_held3 (fun w'=>(w'.cell? ⟨pb,po+m * 7,δ⟩=ζ (Υ Ξ p0)/\w'.cell? ⟨pb,po+m * 7+1,δ⟩=ζ (Υ Ξ p1)/\w'.cell? ⟨pb,po+m * 7+2,δ⟩=ζ (Υ Ξ p2)/\w'.cell? ⟨pb,po+m * 7+3,δ⟩=ζ (Υ Ξ p3)/\w'.cell? ⟨pb,po+m * 7+4,δ⟩=ζ (ω p4)/\w'.cell? ⟨pb,po+m * 7+5,δ⟩=ζ (Υ Ξ p5)/\w'.cell? ⟨pb,po+m * 7+6,δ⟩=ζ (Υ Ξ p6))/\(w'.cell? ⟨pb,po+k * 7,δ⟩=ζ (Υ Ξ q0)/\w'.cell? ⟨pb,po+k * 7+1,δ⟩=ζ (Υ Ξ q1)/\w'.cell? ⟨pb,po+k * 7+2,δ⟩=ζ (Υ Ξ q2)/\w'.cell? ⟨pb,po+k * 7+3,δ⟩=ζ (Υ Ξ q3)/\w'.cell? ⟨pb,po+k * 7+4,δ⟩=ζ (ω q4)/\w'.cell? ⟨pb,po+k * 7+5,δ⟩=ζ (Υ Ξ q5)/\w'.cell? ⟨pb,po+k * 7+6,δ⟩=ζ (Υ Ξ q6))) (go_keep) (fail)
      all_goals
       clear w1 w2;go_wp2;go_meet;case rel=>
        first
         | exact⟨_,_,rfl,rfl,KB.1,KB.2.1,KB.2.2⟩
         | exact⟨_,_,rfl,rfl,KB.2.1,KB.1,KB.2.2⟩
         | fail
     case rest=>
     clear w1 w2 w3 w4 w5 w6 w7 w8 f0 f1 f2 f3 f4 f5 f6 g0 g1 g2 g3 g4 g5 g6 lpb htm;obtain⟨g,h,rfl,rfl,HG,HH,Do⟩:=hcut;rename η=>W7;have Dx:=zq (aW FV.o Do.o);have Ln:=zq (aW eU.o Do.o);go_wp2_with fail
     refine ka (HTk.o _ Dx.o) fun W8 hb=>?_;have HBy:=Ln.bS hb;have HB8:=Dx.bS hb;have hg:=HG.o.below hb HG.o.lt;have hh:=HH.o.below hb HH.o.lt;have g4:=hg.ce 4;have g5:=hg.ce 5;have h4:=hh.ce 4;have h5:=hh.ce 5;have lg:=hg.lt;have lh:=hh.lt;clear hb hg hh HTk HG HH Ln Dx FV Do;by_cases ht:T < 0
     .rw [decide_eq_true ht,iO] at E3k;have hx:aQ (p4=ι/\B=ι\/p4=ν/\q4=ι/\B=ι\/p4=ν/\q4=ν/\(p5==q5)=ν/\B=ι\/p4=ν/\q4=ν/\(p5==q5)=ι/\B=ν):=by
       show _\/_;rw [E3k.o];unfold bne;cases p4 <;> cases q4 <;> cases p5==q5 <;> simp
      clear E3k;have J7:aQ (B=ι/\(p4=ι\/p4=ν/\q4=ι\/p4=ν/\q4=ν/\(p5 !=q5)=ι)\/B=ν/\p4=ν/\q4=ν/\(p5 !=q5)=ν):=by
       unfold bne;rcases hx.o with ⟨h,h'⟩ | ⟨h,h2,h'⟩ | ⟨h,h2,h3,h'⟩ | ⟨h,h2,h3,h'⟩
       .exact .inl ⟨h',.inl h⟩
       .exact .inl ⟨h',.inr (.inl ⟨h,h2⟩)⟩
       .exact .inl ⟨h',.inr (.inr ⟨h,h2,by rw [h3];rfl⟩)⟩
       .exact .inr ⟨h',h,h2,by rw [h3];rfl⟩
      clear hx;rcases J7.o with ⟨rfl,hq⟩ | ⟨rfl,rfl,rfl,h2⟩
      .have e1:=zq (X4.o rfl);rcases hq with rfl | ⟨rfl,rfl⟩ | ⟨rfl,rfl,h2⟩;all_goals
        clear J7;go_wp2;go_ret;exact⟨by rw [e1.o] <;> rfl,HB8.o⟩
      .have e1:=zq (X5.o rfl);clear J7;cases S3 with
       | true=>
        go_wp2;go_roundw;case rel=>exact⟨k+1,by go_num,by rw [HS4.o,E4.o] <;> rfl,oM,e1.o,HBy.o⟩
        case measure=>simp only [ξ];omega
       | false=>
        go_wp2;go_roundw;case rel=>exact⟨k+1,by go_num,by rw [HS4.o,E4.o] <;> rfl,oM,e1.o,HBy.o⟩
        case measure=>simp only [ξ];omega
     .rw [decide_eq_false ht,wT] at E3k;have e1:=zq (X5.o E3k.o);clear E3k X4 X5;cases S3 with
      | true=>
       go_wp2;go_roundw;case rel=>exact⟨k+1,by go_num,by rw [HS4.o,E4.o] <;> rfl,oM,e1.o,HBy.o⟩
       case measure=>simp only [ξ];omega
      | false=>
       go_wp2;go_roundw;case rel=>exact⟨k+1,by go_num,by rw [HS4.o,E4.o] <;> first | rfl | simp,oM,e1.o,HBy.o⟩
       case measure=>simp only [ξ];omega
    .obtain rfl:n=k:=oM;have e1:=zq (X3.o (by rw [E1.o];exact PA.o));have e2:aQ (S2=(S1 || anyN (DE l) n)):=E2;go_wp2;go_roundw;case rel=>exact⟨r+1,by go_num,by rw [HS2.o,e2.o],oM,e1.o,aW HB.o eU.o⟩
     case measure=>simp only [ξ];omega
  .obtain rfl:N=r:=oM;have e1:=zq (X2.o HA.o);go_wp2;go_ret;exact⟨by rw [e1.o] <;> rfl,HB.o⟩
abbrev I7(p s q:Sd):Array χ:=#[Υ Ξ p.x,Υ Ξ p.y,Υ Ξ p.rise,Υ Ξ p.run,ω p.gable,Υ Ξ p.plate,Υ Ξ p.over,Υ Ξ s.x,Υ Ξ s.y,Υ Ξ s.rise,Υ Ξ s.run,ω s.gable,Υ Ξ s.plate,Υ Ξ s.over,Υ Ξ q.x,Υ Ξ q.y,Υ Ξ q.rise,Υ Ξ q.run,ω q.gable,Υ Ξ q.plate,Υ Ξ q.over]
abbrev spV(x y:Int):χ:=bQ #[Υ Ξ x,Υ Ξ y]
theorem mX(s:Sd)(w:η):aE γ 143 #[s.v] w (Rt (spV s.x s.y) w):=by
 obtain⟨x,y,rise,run,gable,plate,over⟩:=s;unfold Sd.v Sd.cells;simp only[];have eG:=zq ((nA w (π #[Υ Ξ x,Υ Ξ y,Υ Ξ rise,Υ Ξ run,ω gable,Υ Ξ plate,Υ Ξ over] 84)).alloc sP (π #[Υ Ξ x,Υ Ξ y] 214));go_enter func143,ntmps143;go_wp2;exact cU (v:=spV x y) (by simp[gP,Tryz.results143,go_sem]) rfl ⟨rfl,eG.o⟩
theorem k14(hb:Bw W W'){v0 v3 v4 v5 v6 v7 v8 v9 v10 v11 v12 v13:χ}(h:W.cell? ⟨B,7,δ⟩=ζ v0/\W.cell? ⟨B,8,δ⟩=ζ v1/\W.cell? ⟨B,9,δ⟩=ζ v2/\W.cell? ⟨B,10,δ⟩=ζ v3/\W.cell? ⟨B,11,δ⟩=ζ v4/\W.cell? ⟨B,12,δ⟩=ζ v5/\W.cell? ⟨B,13,δ⟩=ζ v6/\W.cell? ⟨B,14,δ⟩=ζ v7/\W.cell? ⟨B,15,δ⟩=ζ v8/\W.cell? ⟨B,16,δ⟩=ζ v9/\W.cell? ⟨B,17,δ⟩=ζ v10/\W.cell? ⟨B,18,δ⟩=ζ v11/\W.cell? ⟨B,19,δ⟩=ζ v12/\W.cell? ⟨B,20,δ⟩=ζ v13):
 W'.cell? ⟨B,7,δ⟩=ζ v0/\W'.cell? ⟨B,8,δ⟩=ζ v1/\W'.cell? ⟨B,9,δ⟩=ζ v2/\W'.cell? ⟨B,10,δ⟩=ζ v3/\W'.cell? ⟨B,11,δ⟩=ζ v4/\W'.cell? ⟨B,12,δ⟩=ζ v5/\W'.cell? ⟨B,13,δ⟩=ζ v6/\W'.cell? ⟨B,14,δ⟩=ζ v7/\W'.cell? ⟨B,15,δ⟩=ζ v8/\W'.cell? ⟨B,16,δ⟩=ζ v9/\W'.cell? ⟨B,17,δ⟩=ζ v10/\W'.cell? ⟨B,18,δ⟩=ζ v11/\W'.cell? ⟨B,19,δ⟩=ζ v12/\W'.cell? ⟨B,20,δ⟩=ζ v13:=⟨aY hb h.1,aY hb h.2.1,aY hb h.2.2.1,aY hb h.2.2.2.1,aY hb h.2.2.2.2.1,aY hb h.2.2.2.2.2.1,aY hb h.2.2.2.2.2.2.1,aY hb h.2.2.2.2.2.2.2.1,aY hb h.2.2.2.2.2.2.2.2.1,aY hb h.2.2.2.2.2.2.2.2.2.1,aY hb h.2.2.2.2.2.2.2.2.2.2.1,aY hb h.2.2.2.2.2.2.2.2.2.2.2.1,aY hb h.2.2.2.2.2.2.2.2.2.2.2.2.1,aY hb h.2.2.2.2.2.2.2.2.2.2.2.2.2⟩
theorem Of(h:(w.alloc (π c1 T1)).alloc (π c2 T2)=W):bE W w.heap.size c1 T1/\bE W (w.heap.size+1) c2 T2/\Bw w W:=by
 subst h;have:=bE.new (w.alloc (π c1 T1)) c2 T2;rw[aL]at this;exact⟨(bE.new w _ _).alloc _,this,(nA _ _).alloc sP _⟩
def MI(n:Int):Prop:=-131072<=n/\n<=131072
theorem am7(a b c d w)(h1:MI a)(h2:MI b)(h3:MI c)(h4:MI d):aE γ 144 #[spV a b,spV c d] w (Rt (spV (c-a) (d-b)) w):=by
 unfold MI at *;obtain⟨h1,h1'⟩:=h1;obtain⟨h2,h2'⟩:=h2;obtain⟨h3,h3'⟩:=h3;obtain⟨h4,h4'⟩:=h4;have eG:=zq (((nA w (π #[Υ Ξ a,Υ Ξ b] 214)).alloc sP (π #[Υ Ξ c,Υ Ξ d] 214)).alloc (by simp;omega) (π #[Υ Ξ (c-a),Υ Ξ (d-b)] 214));go_enter func144,ntmps144;go_wp2;exact cU (v:=spV (c-a) (d-b)) (by simp[gP,Tryz.results144,go_sem]) rfl ⟨rfl,eG.o⟩
theorem am8{a b:Int}(h1:MI a)(h2:MI b):-17179869184<=a*b/\a*b<=17179869184:=by
 unfold MI at *;have key:∀x y:Int,0<=x->x<=131072->0<=y->y<=131072->0<=x*y/\x*y<=17179869184:=fun x y k1 k2 k3 k4=>⟨qI k1 k3,by have:=Cy k2 k4 k3 (by decide:(0:Int)<=131072);omega⟩;rcases Int.le_total 0 a with ha|ha<;>rcases Int.le_total 0 b with hb|hb
 .have:=key a b ha h1.2 hb h2.2;omega
 .have:=key a (-b) ha h1.2 oM oM;rw[Int.mul_neg]at this;omega
 .have:=key (-a) b oM oM hb h2.2;rw[Int.neg_mul]at this;omega
 .have:=key (-a) (-b) oM oM oM oM;rw[Int.neg_mul_neg]at this;omega
theorem WH(a b c d w)(h1:MI a)(h2:MI b)(h3:MI c)(h4:MI d):aE γ 190 #[spV a b,spV c d] w (Rt (Υ Ξ (a*d-b*c)) w):=by
 obtain⟨m1,m1'⟩:=am8 h1 h4;obtain⟨m2,m2'⟩:=am8 h2 h3;clear h1 h2 h3 h4;have eG:=zq ((nA w (π #[Υ Ξ a,Υ Ξ b] 214)).alloc sP (π #[Υ Ξ c,Υ Ξ d] 214));go_enter func190,ntmps190;go_wp2;go_ret;exact⟨rfl,eG.o⟩
theorem Z2(p s q w)(h1:MI s.x)(h2:MI s.y)(h3:MI q.x)(h4:MI q.y):aE γ 145 #[bQ (I7 p s q)] w (Rt (spV (q.x-s.x) (q.y-s.y)) w):=by
 have Z3:=zq (fun W=>mX s W);have HCq:=zq (fun W=>mX q W);have HTo:=zq (fun W=>am7 s.x s.y q.x q.y W h1 h2 h3 h4);obtain⟨p0,p1,p2,p3,p4,p5,p6⟩:=p;obtain⟨s0,s1,s2,s3,s4,s5,s6⟩:=s;obtain⟨q0,q1,q2,q3,q4,q5,q6⟩:=q;unfold I7;unfold Sd.v Sd.cells at Z3 HCq;simp only[]at Z3 HCq HTo|-;clear h1 h2 h3 h4;go_enter func145,ntmps145;go_wp2;obtain⟨W,hW⟩:=nm ((w.alloc (π #[Υ Ξ p0,Υ Ξ p1,Υ Ξ p2,Υ Ξ p3,ω p4,Υ Ξ p5,Υ Ξ p6,Υ Ξ s0,Υ Ξ s1,Υ Ξ s2,Υ Ξ s3,ω s4,Υ Ξ s5,Υ Ξ s6,Υ Ξ q0,Υ Ξ q1,Υ Ξ q2,Υ Ξ q3,ω q4,Υ Ξ q5,Υ Ξ q6] 212)).alloc (π #[Υ Ξ 0,Υ Ξ 0] 214));obtain⟨hb,hs,hB⟩:=Of hW;rw[hW];clear hW;have HB:=zq hB;have HS:=zq hs;have c0:=hb.cell 7;have c1:=hb.cell 8;have c2:=hb.cell 9;have c3:=hb.cell 10;have c4:=hb.cell 11;have c5:=hb.cell 12;have c6:=hb.cell 13;have d0:=hb.cell 14;have d1:=hb.cell 15;have d2:=hb.cell 16;have d3:=hb.cell 17;have d4:=hb.cell 18;have d5:=hb.cell 19;have d6:=hb.cell 20;simp only[bC,aU,cO]at c0 c1 c2 c3 c4 c5 c6 d0 d1 d2 d3 d4 d5 d6;have lt:=hb.lt;clear hb hs hB;generalize hBe:w.heap.size=B at *;have HBe:=zq hBe;clear hBe;go_region_held3 (fun w'=>w'.cell? ⟨B,7,δ⟩=ζ (Υ Ξ s0)/\w'.cell? ⟨B,8,δ⟩=ζ (Υ Ξ s1)/\w'.cell? ⟨B,9,δ⟩=ζ (Υ Ξ s2)/\w'.cell? ⟨B,10,δ⟩=ζ (Υ Ξ s3)/\w'.cell? ⟨B,11,δ⟩=ζ (ω s4)/\w'.cell? ⟨B,12,δ⟩=ζ (Υ Ξ s5)/\w'.cell? ⟨B,13,δ⟩=ζ (Υ Ξ s6)/\
  w'.cell? ⟨B,14,δ⟩=ζ (Υ Ξ q0)/\w'.cell? ⟨B,15,δ⟩=ζ (Υ Ξ q1)/\w'.cell? ⟨B,16,δ⟩=ζ (Υ Ξ q2)/\w'.cell? ⟨B,17,δ⟩=ζ (Υ Ξ q3)/\w'.cell? ⟨B,18,δ⟩=ζ (ω q4)/\w'.cell? ⟨B,19,δ⟩=ζ (Υ Ξ q5)/\w'.cell? ⟨B,20,δ⟩=ζ (Υ Ξ q6)) (first |assumption|go_keep)
  (first
   |(go_at_call 143;(with_reducible refine(Z3.o _).mono ?_);rintro e W1 ⟨rfl,hb1⟩;have Yo:=k14 hb1 (B:=B) (by first |assumption|(refine⟨?_,?_,?_,?_,?_,?_,?_,?_,?_,?_,?_,?_,?_,?_⟩<;>(simp only[*];done)));have HS:=zq (show bE W1 _ _ _ from(hb1.block _ HS.o.lt).trans HS.o))
   |(go_at_call 143;(with_reducible refine(HCq.o _).mono ?_);rintro e W2 ⟨rfl,hb2⟩;have hk2:=k14 hb2 (B:=B) (by first |assumption|(refine⟨?_,?_,?_,?_,?_,?_,?_,?_,?_,?_,?_,?_,?_,?_⟩<;>(simp only[*];done)));have HS:=zq (show bE W2 _ _ _ from(hb2.block _ HS.o.lt).trans HS.o))
   |(go_at_call 144;(with_reducible refine(HTo.o _).mono ?_);rintro e W3 ⟨rfl,hb3⟩;have hk3:=k14 hb3 (B:=B) (by first |assumption|(refine⟨?_,?_,?_,?_,?_,?_,?_,?_,?_,?_,?_,?_,?_,?_⟩<;>(simp only[*];done)));have HS:=zq (show bE W3 _ _ _ from(hb3.block _ HS.o.lt).trans HS.o);have z0:=HS.o.fz 0;have z1:=HS.o.fz 1;have e0:=HS.o.cell 0;have e1:=HS.o.cell 1;simp only[bC,aU,cO]at e0 e1)
   |fail)
 go_wp2;have hBe:=HBe.o;subst hBe;have hq:=(HS.o.set 0 (Υ Ξ (q0-s0))).set 1 (Υ Ξ (q1-s1));have hc:=aW (aW (aW (μ _ W).drew hb1) hb2) hb3;have mQ:=((HB.o.trans (hc.mono HB.o.size)).setCell (p:=⟨w.heap.size+1,0,δ⟩) (Jq _) (Υ Ξ (q0-s0))).setCell (p:=⟨w.heap.size+1,1,δ⟩) (Jq _) (Υ Ξ (q1-s1));generalize(W3.setCell ⟨w.heap.size+1,0,δ⟩ (Υ Ξ (q0-s0))).setCell ⟨w.heap.size+1,1,δ⟩ (Υ Ξ (q1-s1))=V at *;have f0:=hq.cell 0;have f1:=hq.cell 1;simp only[aX,bU,cR,bC,aU,cO]at f0 f1;exact cU (v:=spV (q0-s0) (q1-s1)) (by simp[gP,Tryz.results145,go_sem,f0,f1]) rfl ⟨rfl,mQ⟩
def WI(p s q:Sd):Bool:=decide (0<(s.x-p.x)*(q.y-s.y)-(s.y-p.y)*(q.x-s.x))
def C1(s:Sd):Prop:=0<=s.x/\s.x<=65536/\0<=s.y/\s.y<=65536
theorem C1.x{s:Sd}(h:C1 s):MI s.x:=by unfold C1 at h;unfold MI;omega
theorem C1.y{s:Sd}(h:C1 s):MI s.y:=by unfold C1 at h;unfold MI;omega
theorem C1.dx{s t:Sd}(h:C1 s)(k:C1 t):MI (s.x-t.x):=by unfold C1 at h k;unfold MI;omega
theorem C1.dy{s t:Sd}(h:C1 s)(k:C1 t):MI (s.y-t.y):=by unfold C1 at h k;unfold MI;omega
theorem aD4(p s q w)(hp:C1 p)(hs:C1 s)(hq:C1 q):aE γ 150 #[bQ (I7 p s q)] w (Rt (ω (WI p s q)) w):=by
 have vi:=zq (fun W=>mX p W);have Z3:=zq (fun W=>mX s W);have HTo:=zq (fun W=>am7 p.x p.y s.x s.y W hp.x hp.y hs.x hs.y);have HW:=zq (fun W=>Z2 p s q W hs.x hs.y hq.x hq.y);have HX:=zq (fun W=>WH (s.x-p.x) (s.y-p.y) (q.x-s.x) (q.y-s.y) W (hs.dx hp) (hs.dy hp) (hq.dx hs) (hq.dy hs));have E:aQ (WI p s q=decide (0<(s.x-p.x)*(q.y-s.y)-(s.y-p.y)*(q.x-s.x))):=rfl;clear hp hs hq;generalize WI p s q=R at *;obtain⟨p0,p1,p2,p3,p4,p5,p6⟩:=p;obtain⟨s0,s1,s2,s3,s4,s5,s6⟩:=s;obtain⟨q0,q1,q2,q3,q4,q5,q6⟩:=q;unfold I7 at HW|-;unfold Sd.v Sd.cells at vi Z3;simp only[]at vi Z3 HTo HW HX E|-;generalize(s0-p0)*(q1-s1)-(s1-p1)*(q0-s0)=X at *;go_enter func150,ntmps150;go_wp2;have hb:=bE.new w #[Υ Ξ p0,Υ Ξ p1,Υ Ξ p2,Υ Ξ p3,ω p4,Υ Ξ p5,Υ Ξ p6,Υ Ξ s0,Υ Ξ s1,Υ Ξ s2,Υ Ξ s3,ω s4,Υ Ξ s5,Υ Ξ s6,Υ Ξ q0,Υ Ξ q1,Υ Ξ q2,Υ Ξ q3,ω q4,Υ Ξ q5,Υ Ξ q6] 212;obtain⟨W,hW⟩:=nm (w.alloc (π #[Υ Ξ p0,Υ Ξ p1,Υ Ξ p2,Υ Ξ p3,ω p4,Υ Ξ p5,Υ Ξ p6,Υ Ξ s0,Υ Ξ s1,Υ Ξ s2,Υ Ξ s3,ω s4,Υ Ξ s5,Υ Ξ s6,Υ Ξ q0,Υ Ξ q1,Υ Ξ q2,Υ Ξ q3,ω q4,Υ Ξ q5,Υ Ξ q6] 212));have hB:=nA w (π #[Υ Ξ p0,Υ Ξ p1,Υ Ξ p2,Υ Ξ p3,ω p4,Υ Ξ p5,Υ Ξ p6,Υ Ξ s0,Υ Ξ s1,Υ Ξ s2,Υ Ξ s3,ω s4,Υ Ξ s5,Υ Ξ s6,Υ Ξ q0,Υ Ξ q1,Υ Ξ q2,Υ Ξ q3,ω q4,Υ Ξ q5,Υ Ξ q6] 212);rw[hW]at hb hB|-;clear hW;have HB:=zq hB;clear hB;have lW:=hb.lt;refine tJ 12 (fun _=>.quiet) (fun w'=>bE w' w.heap.size #[Υ Ξ p0,Υ Ξ p1,Υ Ξ p2,Υ Ξ p3,ω p4,Υ Ξ p5,Υ Ξ p6,Υ Ξ s0,Υ Ξ s1,Υ Ξ s2,Υ Ξ s3,ω s4,Υ Ξ s5,Υ Ξ s6,Υ Ξ q0,Υ Ξ q1,Υ Ξ q2,Υ Ξ q3,ω q4,Υ Ξ q5,Υ Ξ q6] 212) hb ?_ (st:=fun w1 w2 h hb=>h.below hb lW);clear hb;refine qS 0 rfl (pu ?_);refine qL 1 w.heap.size 0 #[Υ Ξ p0,Υ Ξ p1,Υ Ξ p2,Υ Ξ p3,ω p4,Υ Ξ p5,Υ Ξ p6] (fun _ h=>h.1) rfl (pu ?_);refine qC 2 (fun W _=>vi.o W) rfl (pu ?_);refine qS 3 rfl (pu ?_);refine qL 4 w.heap.size 7 #[Υ Ξ s0,Υ Ξ s1,Υ Ξ s2,Υ Ξ s3,ω s4,Υ Ξ s5,Υ Ξ s6] (fun _ h=>h.1) rfl (pu ?_);refine qC 5 (fun W _=>Z3.o W) rfl (pu ?_);refine qC 6 (fun W _=>HTo.o W) rfl (pu ?_);refine qL 7 w.heap.size 0 #[Υ Ξ p0,Υ Ξ p1,Υ Ξ p2,Υ Ξ p3,ω p4,Υ Ξ p5,Υ Ξ p6,Υ Ξ s0,Υ Ξ s1,Υ Ξ s2,Υ Ξ s3,ω s4,Υ Ξ s5,Υ Ξ s6,Υ Ξ q0,Υ Ξ q1,Υ Ξ q2,Υ Ξ q3,ω q4,Υ Ξ q5,Υ Ξ q6] (fun _ h=>h.1) rfl (pu ?_);refine qC 8 (fun W _=>HW.o W) rfl (pu ?_);refine qC 9 (fun W _=>HX.o W) rfl (pu ?_);refine qS 10 rfl (pu ?_);refine qS 11 rfl (pu ?_);refine qE fun W1 tZ _=>?_;have eG:=zq (aW HB.o tZ.b);clear tZ HB;go_wp2;go_ret;exact⟨by rw[E.o]<;>rfl,eG.o⟩
end
section
open Go Go.RowKit Go.Shelf Go.Lib
section
attribute[local go_sem] eQ
theorem mJ.range{b o:Nat}{l:List Sd}(h:mJ w (ζ ⟨b,o,δ⟩) l)(hi:i<l.length){s:Sd}(hs:l.getD i Γ=s):w.rangeAt b (o+i*7) s.cells.toList:=by
 obtain⟨b',o',e,c⟩:=h i hi;injection e with e;injection e with e1 e2;subst e1 e2;intro j v hv;rw[hs]at c;have hj:j<7:=(List.getElem?_eq_some_iff.1 hv).1;rw[c j hj];rw[Array.getD_eq_getD_getElem?,<-Array.getElem?_toList,hv];rfl
theorem bw5{v:χ}(hb:Below B w1 w2)(hlt:p.block<B)(h:w1.cell? p=ζ v):w2.cell? p=ζ v:=(hb.cell hlt).trans h
theorem mJ.belowB{l:List Sd}(h:mJ w1 a l)(hb:Below B w1 w2)(hlt:∀p,0<l.length->a=ζ p->p.block<B):mJ w2 a l:=fun i hi=>by
 obtain⟨b,off,e,c⟩:=h i hi
 have:=hlt ⟨b,off,δ⟩ oM e
 exact⟨b,off,e,fun j hj=>bw5 hb this (c j hj)⟩
abbrev arK(l:List Sd)(k:Nat):Array χ:=I7 (l.getD (pre l.length k) Γ) (l.getD k Γ) (fR l k)
abbrev aU7(l:List Sd)(k:Nat):Array χ:=#[Υ Ξ k,bQ (arK l k)]
theorem vl(m Bs a n cap l)(hl:l.length=n)(hn:n<=1000)(w)(hB:w.cell? ⟨Bs,0,δ⟩=ζ (Θ a n cap))(hr:mJ w a l):
 UM eD m γ 189 #[aB (ζ ⟨Bs,0,δ⟩)] (aU7 l) (eK (sQ Bs a n)) n w:=by
 intro ly J Jx W hW hJs hY h0;have hB:=aY hW hB;have hr:=hr.below hW;have HL:=zq hl;have HR:=zq hr;have HY:=zq hY;have HJ:=zq hJs;clear hl hr hW hY hJs;refine callsIn_of_wp func189 rfl trivial ?_ rfl;simp only [ntmps189,bI,aC,bB,cL,dF,bG,bH,cE,bN,cM,bV];gi_wp2;gi_loopw [9] (fun i wr=>∃ k:Nat,k<=n/\i=Υ Ξ k/\J k wr/\eK (sQ Bs a n) W wr) (fun i _=>n - (ξ i).toNat);case atStart=>exact⟨0,aP _,rfl,h0,eK.refl _ _⟩
 case round=>
  obtain⟨k,hk,rfl,hJ,hS⟩:=hrel;rename η=>wr;by_cases hlt:k < n
  .have hbx:=(hS.cell (p:=⟨Bs,0,δ⟩) (.inl rfl)).trans hB;have hrr:mJ wr a l:=fun i hi=>by
    obtain⟨b,o,e,c⟩:=HR.o i hi;subst e;exact⟨b,o,rfl,fun j hj=>(hS.cell (p:=⟨b,o+i * 7+j,δ⟩) (.inr ⟨oM,_,rfl,rfl⟩)).trans (c j hj)⟩
   obtain⟨b,o,hab,-⟩:=hrr.at (i:=k) (by rw [HL.o];exact hlt) rfl;subst hab;have HYk:=zq (HY.o k · hlt);have hpk:=KA hlt;have htm:=Oc hlt;have FU:=MD k n;have hmn:(k+1) % n < n:=aV _ oM;have R1:=zq (fun (V:η) (h:mJ V (ζ ⟨b,o,δ⟩) l)=>h.range (i:=pre n k) (by rw [HL.o];exact hpk) rfl);have R2:=zq (fun (V:η) (h:mJ V (ζ ⟨b,o,δ⟩) l)=>h.range (i:=k) (by rw [HL.o];exact hlt) rfl);have R3:=zq (fun (V:η) (h:mJ V (ζ ⟨b,o,δ⟩) l)=>h.range (i:=(k+1) % n) (s:=fR l k) (by rw [HL.o];exact hmn) (by unfold fR;rw [HL.o]));unfold aU7 arK at HYk;rw [HL.o] at HYk;generalize (k+1) % n=m2,pre n k=m1,fR l k=q,l.getD k Γ=s,l.getD (pre n k) Γ=p at *;have w1:IntKind.i64.wrap ((k:Int)+n)=(k:Int)+n:=aM _ oM;have w2:IntKind.i64.wrap ((k:Int)+n - 1)=(k:Int)+n - 1:=aM _ oM;have w3:IntKind.i64.wrap ((k:Int)+1)=(k:Int)+1:=aM _ oM;have v1:(m1:Int) < n:=oM;have v2:(0:Int)<=(m1:Int):=oM;have v3:(m2:Int) < n:=oM;have v4:(0:Int)<=(m2:Int):=oM;have v5:¬ n=0:=oM;have v6:(k:Int) < n:=oM;have GD:=zq hrr;have HLt:aQ (∀ k,sQ Bs (ζ ⟨b,o,δ⟩) n k->k < wr.heap.size):=by
    rintro k (rfl | ⟨h0,p,e,rfl⟩)
    .exact aD wr _ hbx
    .injection e with e;subst e;obtain⟨b',o',e,c⟩:=hrr 0 (by rw [HL.o];exact h0);injection e with e;injection e with e1 e2;subst e1 e2;exact aD wr _ (c 0 dD)
   clear hrr;gi_wp2;refine xB 23 (fun _=>.quiet) (fun w'=>w'.cell? ⟨Bs,0,δ⟩=ζ (Θ (ζ ⟨b,o,δ⟩) n cap)/\mJ w' (ζ ⟨b,o,δ⟩) l) ⟨hbx,GD.o⟩ ?_ (st:=fun w1 w2 h hb=>⟨bw5 hb (HLt.o Bs (.inl rfl)) h.1,h.2.belowB hb fun p h0 e=>HLt.o _ (.inr ⟨by rw [<- HL.o];exact h0,p,e,rfl⟩)⟩);refine qS 0 rfl (pu ?_);refine qS 1 rfl (pu ?_);refine qS 2 rfl (pu ?_);refine qS 3 rfl (pu ?_);refine qS 4 rfl (pu ?_);refine qS 5 rfl (pu ?_);refine qS 6 rfl (pu ?_);refine qS 7 rfl (pu ?_);refine qS 8 rfl (pu ?_);refine qS 9 rfl (pu ?_);refine qR 10 b (o+m1 * 7) #[Υ Ξ p.x,Υ Ξ p.y,Υ Ξ p.rise,Υ Ξ p.run,ω p.gable,Υ Ξ p.plate,Υ Ξ p.over] (fun V h=>R1.o V h.1.2) rfl (pu ?_);refine qS 11 rfl (pu ?_);refine qS 12 rfl (pu ?_);refine qS 13 rfl (pu ?_);refine qR 14 b (o+k * 7) #[Υ Ξ s.x,Υ Ξ s.y,Υ Ξ s.rise,Υ Ξ s.run,ω s.gable,Υ Ξ s.plate,Υ Ξ s.over] (fun V h=>R2.o V h.1.2) rfl (pu ?_);refine qS 15 rfl (pu ?_);refine qS 16 rfl (pu ?_);refine qS 17 rfl (pu ?_);refine qS 18 rfl (pu ?_);refine qS 19 rfl (pu ?_);refine qS 20 rfl (pu ?_);refine qR 21 b (o+m2 * 7) #[Υ Ξ q.x,Υ Ξ q.y,Υ Ξ q.rise,Υ Ξ q.run,ω q.gable,Υ Ξ q.plate,Υ Ξ q.over] (fun V h=>R3.o V h.1.2) rfl (pu ?_);refine qS 22 rfl (pu ?_);refine qT fun V hV _=>?_;obtain⟨fn,tmps,assign,body,hy,hR⟩:=HYk.o V (HJ.o _ _ _ hJ hV.b);refine eI 23 [] rfl (fun K hK=>?_) dW;rw [ip kF];have HVb:=zq (eK.below (ks:=sQ Bs (ζ ⟨b,o,δ⟩) n) hV.b HLt.o);go_simp;refine⟨fun h=>by simp [eD] at h,hR.mono ?_⟩;clear hy hR;rintro e W3 (⟨rfl,hJ3,hk3⟩ | ⟨rfl,aU8⟩)
   .show K _ _;refine hK _ _ (pu ?_);refine tI 24 rfl (pu ?_);refine mL kF ?_ _;refine jH.normal ?_;gi_wp2;go_roundw;case rel=>exact⟨k+1,oM,by go_num,hJ3,(hS.trans HVb.o).trans hk3⟩
    case measure=>simp only [ξ];omega
   .show K _ _;refine hK _ _ (pu ?_);refine tI 24 rfl (pu ?_);refine mL kF ?_ _;refine jH.normal ?_;gi_wp2;refine cU (results_none rfl _ _ _) rfl ?_;exact⟨⟨_,rfl⟩,.inr ⟨k+1,oM,aU8⟩⟩
  .obtain rfl:n=k:=oM;gi_wp2;go_end0;exact⟨⟨_,rfl⟩,.inl hJ⟩
end
section
attribute[local go_sem] eQ
theorem EQ(a n cap w):aE γ 142 #[Θ a n cap] w fun e w'=>e=σ (.func (.func 189) #[] #[aB (ζ ⟨w.heap.size,0,δ⟩)])/\w'=w.alloc (π #[Θ a n cap] 81):=by
 go_enter func142,ntmps142;go_wp2;go_ret;exact⟨rfl,rfl⟩
theorem tK{o o':Obj}(hB:B<=l)(hl:W.heap[l]? =ζ o):Below B W (W.putObj l o'):=
 (μ B W).grown (pX W l o') (aA hB (fM (Array.getElem?_eq_some_iff.1 hl).1)) (fun k e=>by cases e;exact hB)
abbrev arZ:Array χ:=#[Υ Ξ 0,Υ Ξ 0,Υ Ξ 0,Υ Ξ 0,ω ν,Υ Ξ 0,Υ Ξ 0,Υ Ξ 0,Υ Ξ 0,Υ Ξ 0,Υ Ξ 0,ω ν,Υ Ξ 0,Υ Ξ 0,Υ Ξ 0,Υ Ξ 0,Υ Ξ 0,Υ Ξ 0,ω ν,Υ Ξ 0,Υ Ξ 0]
theorem EU{g:mC}{p1 p2:Tmp}{assign body:Code}{Q:Exit->iS->η->Prop}{a:iS}(Bs ra n cap l)(hg:a.eval g=.func (.func 189) #[] #[aB (ζ ⟨Bs,0,δ⟩)])(hl:l.length=n)(hn:n<=1000)(hB:w.cell? ⟨Bs,0,δ⟩=ζ (Θ ra n cap))(hr:mJ w ra l)(I:Nat->η->Prop)(Ix:Code->Nat->η->Prop)(hI:zM w.heap.size I)(JK:∀c,zM w.heap.size (Ix c))(h0:I 0 w)(A:Nat->Nat->Array χ->iS)(rR:∀(ly k:Nat)(p s t:Sd)(W:η)(K:iS->η->Prop),k<n->K (A k W.heap.size (I7 p s t)) (W.alloc (π (I7 p s t) 212))->
  assign.wpIn (Fence.wide.inRound ly) 7 γ (Exit.then K (fun _ _ _=>False)) {tmps:=(a.tmps.setIfInBounds p1 (Υ Ξ k)).setIfInBounds p2 (bQ (I7 p s t)),defers:=[]} W)(Bv:∀(ly k q:Nat)(p s t:Sd)(W:η),k<n->l.getD (pre n k) Γ=p->l.getD k Γ=s->fR l k=t->bE W q (I7 p s t) 212->w.heap.size<=q->(∀j,sQ Bs ra n j->j<W.heap.size)->I k W->body.wpIn (Fence.wide.inRound ly) 7 γ (Bu w.heap.size (eK (sQ Bs ra n)) I Ix (k+1) W) (A k q (I7 p s t)) W)(By:∀(D:Nat)(W:η),w.heap.size<=D->I n W->W.heap[D]? =ζ (.deferred (ζ []))->Q .normal {a with defers:={target:=.collected D,args:=#[]}::a.defers} W)(Bz:∀(D:Nat)(c:Code)(k:Nat)(W:η),w.heap.size<=D->k<=n->Ix c k W->W.heap[D]? =ζ (.deferred (ζ []))->c.wp γ Q {a with defers:={target:=.collected D,args:=#[]}::a.defers} W):
 (Code.rangeFunc g #[p1,p2] assign body).wp γ Q a w:=by
 have hlt:∀k,sQ Bs ra n k->k<w.heap.size:=by
  rintro k (rfl|⟨h0,p,e,rfl⟩)
  .exact aD w _ hB
  .obtain⟨b,o,e2,c⟩:=hr 0 (by rw[hl];exact h0)
   rw[e]at e2
   injection e2 with e2;subst e2
   exact aD w _ (c 0 dD)
 refine M9 (gf:=189) hg (iC func189 kF rfl) (vl 8 Bs ra n cap l hl hn w hB hr) eK.trans (eK.putObj hlt) (fun _=>rfl) (fun k W=>I k W/\w.heap.size<=W.heap.size) Ix
  (eJ hI (fun s A B row h hg _=>aA h hg.size)) JK ⟨h0,θ _⟩
  (fun a' k W=>(∃q,(a'=A k q (arK l k)/\w.heap.size<=q)/\bE W q (arK l k) 212)/\I k W/\w.heap.size<=W.heap.size)
  (fun a'=>eJ (Own.from (fun s A B row hs hg hr=>by obtain⟨q,e,h⟩:=hs;exact⟨q,e,h.own hg hr⟩) _) (eJ hI (fun s A B row h hg _=>aA h hg.size))) ?_ ?_ (fun D W hD hi=>By D W hD hi.1) Bz
 .intro ly k W K hk hi hK
  have hb:Bw W (W.alloc (π (arK l k) 212)):=nA _ _
  have e:(#[p1,p2].zip (aU7 l k)).foldl (fun t(p,v)=>t.setIfInBounds p v) a.tmps=(a.tmps.setIfInBounds p1 (Υ Ξ k)).setIfInBounds p2 (bQ (arK l k)):=sP
  rw[e]
  exact rR ly k _ _ _ W K hk (hK _ _ ((gC hb).from _) (eK.below hb fun k h=>cN (hlt k h) hi.2) ⟨⟨_,⟨rfl,hi.2⟩,bE.new _ _ _⟩,hI k _ _ δ hi.1 (uP hb) (fun r e=>by cases e),aA hi.2 hb.size⟩)
 .rintro ly k a' W hk⟨⟨q,⟨rfl,hq⟩,hb⟩,hi,hs⟩
  refine wpIn_mono (Bv ly k q _ _ _ W hk (by rw[hl]) rfl rfl hb hq (fun j hj=>cN (hlt j hj) hs) hi) ?_
  intro e a3 V h
  cases e with
  |normal=>exact⟨h.1,h.2.1,h.2.2,aA hs h.1.size⟩
  |ret=>exact h
  |exit id=>exact h
  |goto t=>exact h
  |panic ch=>exact h
  |outgrown=>exact h
theorem Z4(l k):rZ l (k+1)=rZ l k+((l.getD k Γ).x*(fR l k).y-(l.getD k Γ).y*(fR l k).x):=by
 rw[rZ,Int.mul_comm (fR l k).x];omega
theorem aD5(a n cap l w)(hl:l.length=n)(hn:n<=1000)(hC:C8 l)(r:mJ w a l):
 aE γ 148 #[Θ a n cap] w (Rt (Υ Ξ (rZ l n)) w):=by
 have fL:=nA w (π #[Υ Ξ 0] 3)
 have vH:=bE.new w #[Υ Ξ 0] 3
 obtain⟨W0,fI⟩:=nm (w.alloc (π #[Υ Ξ 0] 3))
 rw[fI]at fL vH
 have gH:=zq fL
 have rD:=zq vH
 have HR:=zq (r.below fL)
 have HL:=zq hl
 have HC:=zq hC
 have HW:=zq fI
 have VH:aQ (∀p,0<n->a=ζ p->p.block<w.heap.size):=fun p h0 e=>by
  obtain⟨b,o,e2,c⟩:=r 0 (by rw[hl];exact h0)
  rw[e]at e2;injection e2 with e2;subst e2
  exact aD w _ (c 0 dD)
 have WJ:=zq vH.lt
 clear fL vH r hl hC fI
 refine eE func148 rfl ?_
 simp only[ntmps148,bI,aC,bB,cL,dF,bG,bH,cE,bN,cM,bV]
 go_upto_region 2 with(fail)
 rw[HW.o]
 clear HW
 go_wp2_with fail
 refine ka (EQ a n cap W0) fun W1 tZ=>?_
 have hb1:Bw W0 W1:=by rw[tZ];exact nA _ _
 have hq1:bE W1 W0.heap.size #[Θ a n cap] 81:=by rw[tZ];exact bE.new _ _ _
 have eG:=gH.bS hb1
 have Fv:=zq hq1
 have HQs:=rD.bb hb1
 have CG:=zq (HR.o.below hb1)
 clear hb1 hq1 tZ gH rD HR
 have HBs:aQ (w.heap.size<W0.heap.size):=WJ
 clear WJ
 generalize W0.heap.size=Bs at *
 go_wp2_with fail
 obtain⟨SB,hSB⟩:=nm w.heap.size
 rw[hSB]at HQs|-
 have hSW:SB<W1.heap.size:=HQs.o.lt
 have Og:∀j,sQ Bs a n j->j≠SB:=by
  rintro j (rfl|⟨h0,p,e,rfl⟩)h
  .have:=HBs.o;omega
  .have:=VH.o p h0 e;omega
 have HSB:=zq hSB
 clear hSB
 refine EU Bs a n cap l rfl HL.o hn (Fv.o.cell 0) CG.o (fun k W=>bE W SB #[Υ Ξ (rZ l k)] 3/\Bw w W) (fun _ _ _=>False)
  (eJ (Own.from (fun s A B row hs hg hr=>hs.own hg hr) _) (qO (θ _) eG.o.size)) (fun c _ _ _ _ hs _ _=>hs) ⟨HQs.o,eG.o⟩
  (fun k q ar=>{tmps:=#[Θ a n cap,ψ,Υ Ξ 0,aB (ζ ⟨SB,0,δ⟩),ψ,aB (ζ ⟨q,0,δ⟩),Θ a n cap,.func (.func 189) #[] #[aB (ζ ⟨Bs,0,δ⟩)],Υ Ξ k,bQ ar,ψ,ψ,ψ,ψ,ψ,ψ,ψ,ψ,ψ,ψ],defers:=[]})
  (fun ly k p s t W K hk hK=>?_) (fun ly k q p s t W hk hp hs ht hq QJ Pd hI=>?_) (fun D W hD hI hK=>?_) (fun D c k W _ _ h _=>absurd h (fun h=>h))
 .refine Ag arZ (I7 p s t) rfl ?_
  show K _ _
  simpa only[oQ,aX,bU,cR]using hK
 .obtain⟨h1,h2⟩:=hI
  have s0:=h1.ce 0
  have H1:=zq h1
  have Hrw:=zq Pd
  have Hne:=zq Og
  have H2:=zq h2
  have HK:=zq hk
  have E1:=zq (Z4 l k)
  have hb:=MG HC.o k
  have hb2:=MG HC.o (k+1)
  have WK:C1 s:=by rw[<-hs];exact HC.o k
  have Z5:C1 t:=by rw[<-ht];exact HC.o _
  rw[hs,ht]at E1
  have hX:=zq (fun W=>WH s.x s.y t.x t.y W WK.x WK.y Z5.x Z5.y)
  have CD:=zq (fun W=>mX s W)
  have LK:=zq (fun W=>mX t W)
  obtain⟨T2,hT2⟩:=nm (rZ l (k+1))
  rw[hT2]at E1 hb2
  have Yv:=zq hT2
  generalize rZ l k=T at *
  clear h1 h2 hp Pd Og hs ht WK Z5 hT2
  obtain⟨X,hX1⟩:=nm (s.x*t.y-s.y*t.x)
  rw[hX1]at E1 hX
  have e1:IntKind.i64.wrap (T+X)=T+X:=aM _ (by rw[E1.o]at hb2;omega)
  have HQ:=zq hq
  clear hX1 hq
  gi_wp2
  refine wO 9 (fun _=>.quiet) (fun w'=>w'.cell? ⟨SB,0,δ⟩=ζ (Υ Ξ T)/\bE w' q (I7 p s t) 212) ⟨s0,HQ.o⟩ ?_ (st:=fun w1 w2 h hb=>⟨bw5 hb H1.o.lt h.1,h.2.below hb HQ.o.lt⟩)
  refine qS 0 rfl (pu ?_)
  refine qS 1 rfl (pu ?_)
  refine qL 2 q 7 #[Υ Ξ s.x,Υ Ξ s.y,Υ Ξ s.rise,Υ Ξ s.run,ω s.gable,Υ Ξ s.plate,Υ Ξ s.over] (fun V h=>h.1.2) rfl (pu ?_)
  refine qC 3 (fun W _=>CD.o W) rfl (pu ?_)
  refine qS 4 rfl (pu ?_)
  refine qL 5 q 14 #[Υ Ξ t.x,Υ Ξ t.y,Υ Ξ t.rise,Υ Ξ t.run,ω t.gable,Υ Ξ t.plate,Υ Ξ t.over] (fun V h=>h.1.2) rfl (pu ?_)
  refine qC 6 (fun W _=>LK.o W) rfl (pu ?_)
  refine qC 7 (fun W _=>hX.o W) rfl (pu ?_)
  refine qS 8 rfl (pu ?_)
  refine qT fun V hV _=>?_
  have uB:=hV.b
  have q1:=H1.o.below uB H1.o.lt
  have d0:=q1.ce 0
  have z0:=q1.fz 0
  have Hq1:=zq q1
  have vm:=zq uB
  have lV:=q1.lt
  clear s0 hV q1 uB e1
  refine eI 9 [] rfl (fun K hK=>?_) dW
  rw[ip kF]
  go_simp
  refine hK _ _ (pu ?_)
  refine mL kF ?_ _
  refine jH.normal ?_
  have q2:=Hq1.o.set 0 (Υ Ξ (T+X))
  simp only[aX,bU]at q2
  rw[<-E1.o]at q2|-
  have HF:=zq (show iB W1.heap.size W (V.setCell ⟨SB,0,δ⟩ (Υ Ξ T2))from((gC vm.o).trans (dA _ _ _)).from _)
  have HG:=zq ((eK.below (ks:=sQ Bs a n) vm.o Hrw.o).trans (eK.setCell (a:=⟨SB,0,δ⟩) Hne.o (Υ Ξ T2)))
  gi_wp2
  exact⟨HF.o,HG.o,by rw[Yv.o];exact q2,(aW H2.o vm.o).setCell (p:=⟨SB,0,δ⟩) (qU HSB.o) _⟩
 .obtain⟨h1,h2⟩:=hI
  have s0:=h1.ce 0
  have H2:=zq h2
  have HK:=zq hK
  have HD:=zq (aA eG.o.size hD)
  clear h1 h2 hK hD
  go_wp2
  refine⟨sP,.inl ⟨_,_,rfl,iD HK.o,?_⟩⟩
  exact⟨_,iH Tryz.results148 _ _ _,rfl,H2.o.trans (tK HD.o HK.o)⟩
end
end
section
open Go Go.RowKit Go.Lib
def A9(l:List Sd)(x y:Int)(i:Nat):Bool:=((l.getD i Γ).x==(fR l i).x)&&(decide (x<(fR l i).x)&&(decide (DB (l.getD i Γ).y (fR l i).y<=y)&&decide (y<DC (l.getD i Γ).y (fR l i).y)))
def Ax(p:Nat->Bool):Nat->Bool
 |0=>ν
 |n+1=>if p n=ι then !Ax p n else Ax p n
def I8(l:List Sd)(x y:Int):Bool:=Ax (A9 l x y) l.length
theorem Z6(a n cap l x y w)(hl:l.length=n)(hn:n<=1000)(r:mJ w a l):
 aE γ 84 #[Θ a n cap,Υ Ξ x,Υ Ξ y] w fun e w'=>e=σ (ω (I8 l x y))/\Dr w w':=by
 have HE:=zq (fun k (hk:k < n) W (hW:Dr w W)=>Od a n cap k l W hl oM hk (r.below hW.below));have HR:=zq r;have HL:=zq hl;have HN:aQ (I8 l x y=Ax (A9 l x y) n):=by show _=_;rw [<- hl];rfl
 clear r hl;go_enter func84,ntmps84;go_wp2;go_loopw [7,8] (fun t i wr=>∃ k:Nat,i=Υ Ξ k/\t=ω (Ax (A9 l x y) k)/\k<=n/\aQ (Dr w wr)) (fun _ i _=>n - (ξ i).toNat);case atStart=>exact⟨0,rfl,rfl,aP _,Dr.refl w⟩
 case round=>
  obtain⟨k,rfl,rfl,hk,HB⟩:=hrel;by_cases hlt:k < n
  .have HEk:=zq (HE.o k hlt _ HB.o);obtain⟨b,o,rfl,-⟩:=HR.o.at (i:=k) (by rw [HL.o];exact hlt) rfl;have E1:aQ (Ax (A9 l x y) (k+1)=if A9 l x y k=ι then !Ax (A9 l x y) k else Ax (A9 l x y) k):=rfl;have E2:aQ (A9 l x y k=(((l.getD k Γ).x==(fR l k).x) && (decide (x < (fR l k).x) && (decide (DB (l.getD k Γ).y (fR l k).y<=y) && decide (y < DC (l.getD k Γ).y (fR l k).y))))):=rfl;obtain⟨s,hs⟩:=nm (l.getD k Γ);rw [hs] at E2;have Hs:=zq hs;clear hs;obtain⟨B2,mQ⟩:=nm (Ax (A9 l x y) (k+1));have eU:=zq mQ;rw [mQ] at E1;clear mQ;generalize fR l k=q,A9 l x y k=C,Ax (A9 l x y) k=B1 at *;go_wp2_with fail
   refine ka HEk.o fun W hb1=>?_;have eG:=zq (HB.o.trans hb1);obtain⟨b',o',e1,c0,c1,-⟩:=(HR.o.below eG.o.below).at (i:=k) (by rw [HL.o];exact hlt) Hs.o;injection e1 with e1;injection e1 with e1 e2;subst e1 e2;clear hb1 HEk HB;unfold DB DC at E2;obtain⟨M1,hM1⟩:=nm ((if q.y < s.y then q.y else s.y));obtain⟨M2,hM2⟩:=nm ((if s.y < q.y then q.y else s.y));rw [hM1,hM2] at E2;have mM1:=C9 hM1;have mM2:=Da hM2;have hx:aQ ((s.x==q.x)=ν/\B2=B1\/(s.x==q.x)=ι/\decide (x < q.x)=ν/\B2=B1\/(s.x==q.x)=ι/\decide (x < q.x)=ι/\decide (M1<=y)=ν/\B2=B1\/
    (s.x==q.x)=ι/\decide (x < q.x)=ι/\decide (M1<=y)=ι/\decide (y < M2)=ν/\B2=B1\/(s.x==q.x)=ι/\decide (x < q.x)=ι/\decide (M1<=y)=ι/\decide (y < M2)=ι/\B2= !B1):=by
    show _\/_;rw [E1.o,E2.o];cases (s.x==q.x) <;> cases decide (x < q.x) <;> cases decide (M1<=y) <;> cases decide (y < M2) <;> simp
   clear E1 E2;rcases hx.o with ⟨h1,rfl⟩ | ⟨h1,h2,rfl⟩ | ⟨h1,h2,h3,rfl⟩ | ⟨h1,h2,h3,h4,rfl⟩ | ⟨h1,h2,h3,h4,rfl⟩;all_goals
    clear hx;go_wp2;go_roundw;case rel=>exact⟨k+1,by go_num,by rw [eU.o],oM,eG.o⟩
    case measure=>simp only [ξ];omega
  .obtain rfl:n=k:=oM;go_wp2;go_ret;exact⟨by rw [HN.o] <;> rfl,HB.o⟩
end
section
open Go Go.RowKit Go.Shelf Go.Lib
section
attribute[local go_sem] eQ
theorem ldI{n:Nat}{cF:Array eZ}{rest:List eZ}{op:eZ}{a:iS}{Q:Exit->iS->η->Prop}(ty b o cs){x:mC}{d:TypeDesc}(hc:w.rangeAt b o cs.toList)(h:wpListIn F n P cF Q rest (a.put op.dst (bQ cs)) w)(ho:op.op=.load ty x:=by rfl)(hg:op.guard=δ:=by rfl)(hx:a.eval x=aB (ζ ⟨b,o,δ⟩):=by rfl)(hu:P.underlying ty=ζ d:=by rfl)(hd:d.isRow=ι:=by rfl)(hz:(P.info? ty).map (·.size)=ζ cs.toList.length:=by kernel_rfl):wpListIn F n P cF Q (op::rest) a w:=
 wpListIn_plain hg fun K hK=>by
  refine⟨fun f hf=>?_,?_⟩
  .unfold Oper.about at hf
   rw[ho]at hf
   cases hf
  .have e:=run_loadAt_mid (P:=P) w b o ty cs.toList d hc hu hd hz
   rw[Oper.semAt_plain F _ _ (fun c=>by rw[ho];exact fun h=>by cases h)]
   unfold execOp
   simp only[ho,hx,Sem.run_bind,e,Result.andThen_ok,Sem.run_pure]
   show K (a.put op.dst _) w
   exact hK _ _ (by simpa using h)
def aD6(s t:Sd)(x y:Int):Bool:=((t.x-s.x)==0)&&(decide (x<s.x)&&(decide (y<s.y) !=decide (y<t.y)))
theorem am9(u v W):Sem.run γ (Instr.field 214 (bQ #[Υ Ξ u,Υ Ξ v]) 0) W=.ok (Υ Ξ u) W:=by first |rfl|kernel_rfl
theorem aD7(l x y k):A9 l x y k=aD6 (l.getD k Γ) (fR l k) x y:=by
 unfold A9 aD6 DB DC;generalize l.getD k Γ=s;generalize fR l k=t;by_cases h:s.x=t.x
 .have h1:(s.x==t.x)=ι:=by simp[h]
  have h2:(t.x-s.x==0)=ι:=by rw[beq_iff_eq];omega
  rw[h1,h2,h];congr 2;by_cases h3:y<s.y<;>by_cases h4:y<t.y<;>simp[h3,h4]<;>split <;>omega
 .have h1:(s.x==t.x)=ν:=by simp[h]
  have h2:(t.x-s.x==0)=ν:=by rw[beq_eq_false_iff_ne];omega
  rw[h1,h2];rfl
theorem vn(a n cap l x y w)(hl:l.length=n)(hn:n<=1000)(hC:C8 l)(r:mJ w a l):
 aE γ 149 #[Θ a n cap,spV x y] w (Rt (ω (I8 l x y)) w):=by
 obtain⟨W0,fI⟩:=nm ((w.alloc (π #[Υ Ξ x,Υ Ξ y] 214)).alloc (π #[ω ν] 4))
 obtain⟨gz,vH,fL⟩:=Of fI
 have gH:=zq fL
 have HP0:=zq gz
 have rD:=zq vH
 have HR:=zq (r.below fL)
 have HL:=zq hl
 have HC:=zq hC
 have HW:=zq fI
 have HE:aQ (I8 l x y=Ax (A9 l x y) n):=by show _=_;rw[<-hl];rfl
 have VH:aQ (∀p,0<n->a=ζ p->p.block<w.heap.size):=fun p h0 e=>by
  obtain⟨b,o,e2,c⟩:=r 0 (by rw[hl];exact h0)
  rw[e]at e2;injection e2 with e2;subst e2
  exact aD w _ (c 0 dD)
 have WJ:aQ (w.heap.size+1<W0.heap.size):=vH.lt
 clear fL gz vH r hl hC fI
 refine eE func149 rfl ?_
 simp only[ntmps149,bI,aC,bB,cL,dF,bG,bH,cE,bN,cM,bV]
 go_upto_region 2 with(fail)
 rw[HW.o]
 clear HW
 go_wp2_with fail
 refine ka (EQ a n cap W0) fun W1 tZ=>?_
 have hb1:Bw W0 W1:=by rw[tZ];exact nA _ _
 have hq1:bE W1 W0.heap.size #[Θ a n cap] 81:=by rw[tZ];exact bE.new _ _ _
 have eG:=gH.bS hb1
 have Fv:=zq hq1
 have HQs:=rD.bb hb1
 have HPs:=HP0.bb hb1
 have CG:=zq (HR.o.below hb1)
 clear hb1 hq1 tZ gH rD HP0 HR
 have HBs:aQ (w.heap.size+1<W0.heap.size):=WJ
 clear WJ
 generalize W0.heap.size=Bs at *
 go_wp2_with fail
 obtain⟨SB,hSB⟩:=nm (w.heap.size+1)
 obtain⟨PB,hPB⟩:=nm w.heap.size
 rw[hPB]at HPs
 rw[hSB]at HQs|-
 rw[hPB]at hSB|-
 have Og:∀j,sQ Bs a n j->j≠SB:=by
  rintro j (rfl|⟨h0,p,e,rfl⟩)h
  .have:=HBs.o;omega
  .have:=VH.o p h0 e;omega
 have HSB:=zq hSB
 have HPB:=zq hPB
 clear hSB hPB
 have E0:aQ (∀k,Ax (A9 l x y) (k+1)=if aD6 (l.getD k Γ) (fR l k) x y=ι then !Ax (A9 l x y) k else Ax (A9 l x y) k):=fun k=>by rw[Ax,aD7]
 refine EU Bs a n cap l rfl HL.o hn (Fv.o.cell 0) CG.o (fun k W=>bE W SB #[ω (Ax (A9 l x y) k)] 4/\Bw w W/\bE W PB #[Υ Ξ x,Υ Ξ y] 214) (fun _ _ _=>False)
  (eJ (Own.from (fun s A B row hs hg hr=>hs.own hg hr) _) (eJ (qO (θ _) eG.o.size) (Own.from (fun s A B row hs hg hr=>hs.own hg hr) _))) (fun c _ _ _ _ hs _ _=>hs) ⟨HQs.o,eG.o,HPs.o⟩
  (fun k q ar=>{tmps:=#[Θ a n cap,spV x y,ψ,aB (ζ ⟨PB,0,δ⟩),ω ν,aB (ζ ⟨SB,0,δ⟩),ψ,aB (ζ ⟨q,0,δ⟩),ψ,Θ a n cap,.func (.func 189) #[] #[aB (ζ ⟨Bs,0,δ⟩)],Υ Ξ k,bQ ar,ψ,ψ,ψ,ψ,ψ,ψ,ψ,ψ,ψ,ψ,ψ,ψ,ψ,ψ,ψ,ψ,ψ,ψ,ψ,ψ,ψ,ψ,ψ,ψ,ψ,ψ,ψ,ψ,ψ,ψ,ψ],defers:=[]})
  (fun ly k p s t W K hk hK=>?_) (fun ly k q p s t W hk hp hs ht hq QJ Pd hI=>?_) (fun D W hD hI hK=>?_) (fun D c k W _ _ h _=>absurd h (fun h=>h))
 .refine Ag arZ (I7 p s t) rfl ?_
  show K _ _
  simpa only[oQ,aX,bU,cR]using hK
 .obtain⟨h1,h2,h3⟩:=hI
  have H1:=zq h1
  have H2:=zq h2
  have H3:=zq h3
  have Hrw:=zq Pd
  have Hne:=zq Og
  have E1:=zq (E0.o k)
  have WK:C1 s:=by rw[<-hs];exact HC.o k
  have Z5:C1 t:=by rw[<-ht];exact HC.o _
  rw[hs,ht]at E1
  have CD:=zq (fun W=>mX s W)
  have hwy:=zq (fun W=>Z2 p s t W WK.x WK.y Z5.x Z5.y)
  obtain⟨B2,mQ⟩:=nm (Ax (A9 l x y) (k+1))
  rw[mQ]at E1
  have eU:=zq mQ
  have Sx:=WK.x
  have Tx:=Z5.x
  generalize Ax (A9 l x y) k=B1 at *
  have HQ:=zq hq
  clear h1 h2 h3 hp Pd Og hs ht WK Z5 mQ hq HC E0 Sx Tx
  gi_wp2_with (refine ldI 84 q 7 #[Υ Ξ s.x,Υ Ξ s.y,Υ Ξ s.rise,Υ Ξ s.run,ω s.gable,Υ Ξ s.plate,Υ Ξ s.over] (HQ.o.range 7 7 rfl) ?_)
  refine⟨trivial,(Calls.round (CD.o _) _ _).mono ?_⟩
  rintro e V1⟨rfl,hb1⟩
  have vm:=zq hb1
  have VW:=bE.new V1 #[Υ Ξ s.x,Υ Ξ s.y] 214
  obtain⟨V2,hVe⟩:=nm (V1.alloc (π #[Υ Ξ s.x,Υ Ξ s.y] 214))
  rw[hVe]at VW
  have hb2:Bw V1 V2:=by rw[<-hVe];exact nA _ _
  have Px:=zq VW
  have jo:=vm.bS hb2
  have Hve:=zq hVe
  have GX:=zq (HQ.o.below jo.o HQ.o.lt)
  clear hb1 VW hb2 hVe vm HQ
  gi_upto_region 5 with(fail)
  rw[Hve.o]
  clear Hve
  generalize V1.heap.size=VB at *
  gi_wp2_with (refine ldI 212 q 0 (I7 p s t) (GX.o.range 0 21 rfl) ?_)
  refine⟨trivial,(Calls.round (hwy.o _) _ _).mono ?_⟩
  rintro e V3⟨rfl,hb3⟩
  have Hb3:=jo.bS hb3
  have g:=Px.o.below hb3 Px.o.lt
  have g0:=g.cell 0
  have g1:=g.cell 1
  have h3:=H3.o.below Hb3.o H3.o.lt
  have p0:=h3.cell 0
  have p1:=h3.cell 1
  have h1:=H1.o.below Hb3.o H1.o.lt
  have s0:=h1.cell 0
  have z0:=h1.fz 0
  have hq3:=GX.o.below hb3 GX.o.lt
  have t1:=hq3.cell 15
  simp only[bC,aU,cO]at g0 g1 p0 p1 s0 t1
  have H1':=zq h1
  have H3':=zq h3
  have ls:=h1.lt
  clear hb3 g h3 h1 hq3 Px GX jo H1 H3
  have HF:=zq ((gC Hb3.o).from W1.heap.size)
  have HG:=zq (eK.below (ks:=sQ Bs a n) Hb3.o Hrw.o)
  have Yx:=zq (aW H2.o Hb3.o)
  have hx:aQ (((t.x-s.x)=0)=False/\B2=B1\/(t.x-s.x)=0/\(x<s.x)=False/\B2=B1\/(t.x-s.x)=0/\x<s.x/\(y<s.y)=False/\(y<t.y)=False/\B2=B1\/(t.x-s.x)=0/\x<s.x/\y<s.y/\y<t.y/\B2=B1\/
   (t.x-s.x)=0/\x<s.x/\y<s.y/\(y<t.y)=False/\B2= !B1\/(t.x-s.x)=0/\x<s.x/\(y<s.y)=False/\y<t.y/\B2= !B1):=by
   show _\/_
   rw[E1.o]
   unfold aD6
   by_cases c1:t.x-s.x=0<;>by_cases c2:x<s.x<;>by_cases c3:y<s.y<;>by_cases c4:y<t.y<;>simp[c1,c2,c3,c4]
  clear E1
  have sR:=am9
  rcases hx.o with⟨c1,rfl⟩|⟨c1,c2,rfl⟩|⟨c1,c2,c3,c4,rfl⟩|⟨c1,c2,c3,c4,rfl⟩|⟨c1,c2,c3,c4,rfl⟩|⟨c1,c2,c3,c4,rfl⟩
  all_goals
   clear hx
   gi_wp2
   first
    |exact⟨HF.o,HG.o,by rw[eU.o];exact H1'.o,Yx.o,H3'.o⟩
    |(exact⟨HF.o.trans ((dA _ _ _).from _),HG.o.trans (eK.setCell (a:=⟨SB,0,δ⟩) Hne.o _),by rw[eU.o];exact H1'.o.set 0 _,Yx.o.setCell (p:=⟨SB,0,δ⟩) (by show w.heap.size<=SB;rw[<-HSB.o,<-HPB.o];exact Jq _) _,H3'.o.other _ (by show PB≠SB;rw[<-HSB.o];exact Nat.ne_of_lt (Fk _))⟩)
    |(trace_state;fail)
 .obtain⟨h1,h2,h3⟩:=hI
  have s0:=h1.ce 0
  have H2:=zq h2
  have HK:=zq hK
  have HD:=zq (aA eG.o.size hD)
  have E:=zq HE.o
  clear h1 h2 h3 hK hD
  go_wp2
  refine⟨sP,.inl ⟨_,_,rfl,iD HK.o,?_⟩⟩
  exact⟨_,iH Tryz.results149 _ _ _,by rw[E.o]<;>rfl,H2.o.trans (tK HD.o HK.o)⟩
end
section
attribute[local go_sem] eQ
def badQ(p s t:Sd):Bool:=((t.x-s.x==0)==(t.y-s.y==0))||((s.x-p.x==0)==(t.x-s.x==0))
def EV(l:List Sd)(k:Nat):Bool:=badQ (l.getD (pre l.length k) Γ) (l.getD k Γ) (fR l k)
theorem xQ(n):sgI n=0↔n=0:=by
 unfold sgI;split
 .omega
 .split <;>omega
theorem sC{n:Nat}{R:Fg->η->Prop}{a:iS}{v:χ}(h:(gP fn a.tmps).run P w=.ok v w)(hd:a.defers=[])(hR:R (σ v) w):bodyPostM F n P fn R .ret a w:=by
 show LeavesInM _ _ _ _ _ _ _ _ _;rw[hd];exact⟨v,h,hR⟩
theorem aN8{n:Nat}{R:Fg->η->Prop}{a:iS}{v:χ}(hd:a.defers=[{target:=.collected D,args:=#[]}])(hD:(Instr.takeDeferred D).run P w=.ok [] w2)(h:(gP fn a.tmps).run P w2=.ok v w2)(hR:R (σ v) w2):bodyPostM F n P fn R .ret a w:=by
 show LeavesInM _ _ _ _ _ _ _ _ _;rw[hd];exact⟨sP,.inl ⟨_,_,rfl,hD,_,h,hR⟩⟩
theorem EW(W):(isAgg 4).run γ W=.ok ν W:=by first |rfl|kernel_rfl
theorem tQ{b:Nat}{x y:χ}(h:bE W b #[x,y] T):W.cell? ⟨b,0,δ⟩=ζ x/\W.cell? ⟨b,1,δ⟩=ζ y/\W.frozen? ⟨b,0,δ⟩=ν/\W.frozen? ⟨b,1,δ⟩=ν/\b<W.heap.size:=⟨h.cell 0,h.cell 1,h.fz 0,h.fz 1,h.lt⟩
theorem Z7(a n cap l w)(hl:l.length=n)(hn:n<=1000)(hC:C8 l)(r:mJ w a l):
 aE γ 97 #[Θ a n cap] w (Rt (ω (decide (4<=n)&& !anyN (EV l) n)) w):=by
 obtain⟨W0,fI⟩:=nm (w.alloc (π #[ω ν] 4))
 have fL:=nA w (π #[ω ν] 4)
 have vH:=bE.new w #[ω ν] 4
 rw[fI]at fL vH
 have gH:=zq fL
 have rD:=zq vH
 have HR:=zq (r.below fL)
 have HL:=zq hl
 have HC:=zq hC
 have HW:=zq fI
 have VH:aQ (∀p,0<n->a=ζ p->p.block<w.heap.size):=fun p h0 e=>by
  obtain⟨b,o,e2,c⟩:=r 0 (by rw[hl];exact h0)
  rw[e]at e2;injection e2 with e2;subst e2
  exact aD w _ (c 0 dD)
 have WJ:aQ (w.heap.size<W0.heap.size):=vH.lt
 clear fL vH r hl hC fI
 refine eE func97 rfl ?_
 simp only[ntmps97,bI,aC,bB,cL,dF,bG,bH,cE,bN,cM,bV]
 go_upto_region 1 with(fail)
 rw[HW.o]
 clear HW
 have q0:=rD.o.ce 0
 have z0:=rD.o.fz 0
 have l0:=rD.o.lt
 by_cases h4:n<4
 .have q2:=rD.o.set 0 (ω ν)
  have mQ:=gH.o.setCell (p:=⟨w.heap.size,0,δ⟩) (θ _) (ω ν)
  simp only[aX,bU]at q2
  have Hq2:=zq q2
  have eU:=zq mQ
  have E:aQ ((decide (4<=n)&& !anyN (EV l) n)=ν):=by show _=_;rw[decide_eq_false oM];rfl
  clear q2 mQ
  go_wp2
  exact sC (oG rfl _ _ w.heap.size (ω ν) rfl (Hq2.o.cell 0) (EW _)) rfl ⟨by rw[E.o],eU.o⟩
 go_wp2_with fail
 refine ka (EQ a n cap W0) fun W1 tZ=>?_
 have hb1:Bw W0 W1:=by rw[tZ];exact nA _ _
 have hq1:bE W1 W0.heap.size #[Θ a n cap] 81:=by rw[tZ];exact bE.new _ _ _
 have eG:=gH.bS hb1
 have Fv:=zq hq1
 have HQs:=rD.bb hb1
 have CG:=zq (HR.o.below hb1)
 clear hb1 hq1 tZ gH rD HR q0 z0 l0
 have HBs:aQ (w.heap.size<W0.heap.size):=WJ
 clear WJ
 generalize W0.heap.size=Bs at *
 go_wp2_with fail
 obtain⟨RB,hRB⟩:=nm w.heap.size
 rw[hRB]at HQs|-
 have Og:∀j,sQ Bs a n j->j≠RB:=by
  rintro j (rfl|⟨h0,p,e,rfl⟩)h
  .have:=HBs.o;omega
  .have:=VH.o p h0 e;omega
 have ql:=zq hRB
 clear hRB
 have E0:aQ (∀k,anyN (EV l) (k+1)=(anyN (EV l) k||badQ (l.getD (pre l.length k) Γ) (l.getD k Γ) (fR l k))):=fun k=>rfl
 rw[HL.o]at E0
 refine EU Bs a n cap l rfl HL.o hn (Fv.o.cell 0) CG.o (fun k W=>bE W RB #[ω ν] 4/\Bw w W/\anyN (EV l) k=ν) (fun c _ W=>c=.ret/\bE W RB #[ω ν] 4/\Bw w W/\anyN (EV l) n=ι)
  (eJ (Own.from (fun s A B row hs hg hr=>hs.own hg hr) _) (eJ (qO (θ _) eG.o.size) (fun _ _ _ _ h _ _=>h)))
  (fun c=>eJ (fun _ _ _ _ h _ _=>h) (eJ (Own.from (fun s A B row hs hg hr=>hs.own hg hr) _) (eJ (qO (θ _) eG.o.size) (fun _ _ _ _ h _ _=>h)))) ⟨HQs.o,eG.o,rfl⟩
  (fun k q ar=>{tmps:=#[Θ a n cap,ψ,aB (ζ ⟨RB,0,δ⟩),ψ,aB (ζ ⟨q,0,δ⟩),ψ,ψ,Θ a n cap,Υ Ξ n,ω (decide ((n:Int)<4)),Θ a n cap,.func (.func 189) #[] #[aB (ζ ⟨Bs,0,δ⟩)],Υ Ξ k,bQ ar,ψ,ψ,ψ,ψ,ψ,ψ,ψ,ψ,ψ,ψ,ψ,ψ,ψ,ψ,ψ,ψ,ψ,ψ,ψ,ψ,ψ,ψ,ψ,ψ,ψ],defers:=[]})
  (fun ly k p s t W K hk hK=>?_) (fun ly k q p s t W hk hp hs ht hq QJ Pd hI=>?_) (fun D W hD hI hK=>?_) (fun D c k W hD hk hI hK=>?_)
 .refine Ag arZ (I7 p s t) rfl ?_
  show K _ _
  simpa only[oQ,aX,bU,cR]using hK
 .obtain⟨h1,h2,h3⟩:=hI
  have H1:=zq h1
  have H2:=zq h2
  have H3:=zq h3
  have Hrw:=zq Pd
  have Hne:=zq Og
  have HK:=zq hk
  have E1:=zq (E0.o k)
  have C1p:C1 p:=by rw[<-hp];exact HC.o _
  have WK:C1 s:=by rw[<-hs];exact HC.o k
  have Z5:C1 t:=by rw[<-ht];exact HC.o _
  rw[hp,hs,ht,h3,nZ]at E1
  have hcp:=zq (fun W=>mX p W)
  have CD:=zq (fun W=>mX s W)
  have hto:=zq (fun W=>am7 p.x p.y s.x s.y W C1p.x C1p.y WK.x WK.y)
  have hwy:=zq (fun W=>Z2 p s t W WK.x WK.y Z5.x Z5.y)
  have HQ:=zq hq
  have HRW:aQ (RB≠W.heap.size/\RB<W.heap.size):=⟨Nat.ne_of_lt h1.lt,h1.lt⟩
  clear h1 h2 h3 hp Pd Og hs ht C1p WK Z5 hq hk
  gi_wp2
  refine wO 12 (fun |9=>.alloc #[Υ Ξ 0,Υ Ξ 0] 214|10=>.alloc #[Υ Ξ 0,Υ Ξ 0] 214|11=>.store|_=>.quiet) (fun w'=>bE w' q (I7 p s t) 212) HQ.o ?_ (st:=fun w1 w2 h hb=>h.below hb HQ.o.lt)
  refine qS 0 rfl (pu ?_)
  refine qL 1 q 0 #[Υ Ξ p.x,Υ Ξ p.y,Υ Ξ p.rise,Υ Ξ p.run,ω p.gable,Υ Ξ p.plate,Υ Ξ p.over] (fun V h=>h.1) rfl (pu ?_)
  refine qC 2 (fun W _=>hcp.o W) rfl (pu ?_)
  refine qS 3 rfl (pu ?_)
  refine qL 4 q 7 #[Υ Ξ s.x,Υ Ξ s.y,Υ Ξ s.rise,Υ Ξ s.run,ω s.gable,Υ Ξ s.plate,Υ Ξ s.over] (fun V h=>h.1) rfl (pu ?_)
  refine qC 5 (fun W _=>CD.o W) rfl (pu ?_)
  refine qC 6 (fun W _=>hto.o W) rfl (pu ?_)
  refine qL 7 q 0 (I7 p s t) (fun V h=>h.1) rfl (pu ?_)
  refine qC 8 (fun W _=>hwy.o W) rfl (pu ?_)
  refine qA 9 [9,10] #[Υ Ξ 0,Υ Ξ 0] 214 rfl (fun g5 sj hn5=>pu ?_) (hal:=fun j hj=>by simp at hj;rcases hj with rfl|rfl<;>exact⟨_,_,rfl,dD⟩)
  refine qA 10 [10] #[Υ Ξ 0,Υ Ξ 0] 214 rfl (fun g6 hg6 hn6=>pu ?_) (hal:=fun j hj=>by simp at hj;rcases hj with rfl;exact⟨_,_,rfl,dD⟩)
  have hne:g5≠g6:=fun e=>by subst e;unfold DQ at hn6;rw[ip rfl]at hn6;cases hn6
  refine qW 11 g5 #[Υ Ξ (s.x-p.x),Υ Ξ (s.y-p.y)] #[Υ Ξ 0,Υ Ξ 0] 214 rfl (by unfold DQ;rw[iN hne,ip rfl]) sj ?_ Ww
  refine qT fun V hV hG=>?_
  have b5:bE V g5 #[Υ Ξ (s.x-p.x),Υ Ξ (s.y-p.y)] 214:=hG g5 _ _ (by unfold DQ;rw[ip rfl])
  have b6:bE V g6 #[Υ Ξ 0,Υ Ξ 0] 214:=hG g6 _ _ (by unfold DQ;rw[iN (Ne.symm hne),ip rfl])
  have uB:=hV.b
  obtain⟨e0,e1,z0,z1,l6⟩:=tQ b6
  have B6:=zq b6
  have B5:=zq b5
  have vm:=zq uB
  have Hg6:=zq hg6
  have Hg5:=zq sj
  have vo:=zq hne
  clear b5 b6 uB hV hG hg6 sj hn5 hn6 hne hcp CD hto hwy
  refine eI 12 [] rfl (fun K hK=>?_) dW
  rw[ip kF]
  go_simp
  refine hK _ _ (pu ?_)
  refine mL kF ?_ _
  refine jH.normal ?_
  have q6:=(B6.o.set 0 (Υ Ξ (t.x-s.x))).set 1 (Υ Ξ (t.y-s.y))
  simp only[aX,bU,cR]at q6
  have q5:=(B5.o.other (a:=⟨g6,0,δ⟩) (Υ Ξ (t.x-s.x)) vo.o).other (a:=⟨g6,1,δ⟩) (Υ Ξ (t.y-s.y)) vo.o
  have hb2:=(vm.o.setCell (p:=⟨g6,0,δ⟩) Hg6.o (Υ Ξ (t.x-s.x))).setCell (p:=⟨g6,1,δ⟩) Hg6.o (Υ Ξ (t.y-s.y))
  clear hK e0 e1 z0 z1 l6 B6 B5 vm
  generalize(V.setCell ⟨g6,0,δ⟩ (Υ Ξ (t.x-s.x))).setCell ⟨g6,1,δ⟩ (Υ Ξ (t.y-s.y))=V2 at *
  obtain⟨u0,u1,-,-,l5⟩:=tQ q5
  obtain⟨v0,v1,-,-,l6⟩:=tQ q6
  have h1:=H1.o.below hb2 HRW.o.2
  have r0:=h1.ce 0
  have rz:=h1.fz 0
  have jo:=zq hb2
  have H1':=zq h1
  have lr:=h1.lt
  clear q5 q6 hb2 h1 H1 HQ Hg5 Hg6 vo HRW
  have HF:=zq ((gC jo.o).from W1.heap.size)
  have HG:=zq (eK.below (ks:=sQ Bs a n) jo.o Hrw.o)
  have Yx:=zq (aW H2.o jo.o)
  have Pb:=zq (HF.o.trans ((dA V2 ⟨RB,0,δ⟩ (ω ν)).from _))
  have q7:=H1'.o.set 0 (ω ν)
  simp only[aX,bU]at q7
  have HQ7:=zq q7
  have Dx:=zq (Yx.o.setCell (p:=⟨RB,0,δ⟩) (by show w.heap.size<=RB;exact qU ql.o) (ω ν))
  clear q7
  have hx:aQ (∀b,anyN (EV l) (k+1)=b->b=ν/\anyN (EV l) (k+1)=ν\/b=ι/\anyN (EV l) n=ι):=fun b hb=>by
   cases b
   .exact .inl ⟨rfl,hb⟩
   .obtain⟨j,h1,h2⟩:=eF.1 hb
    exact .inr ⟨rfl,eF.2 ⟨j,by have:=HK.o;omega,h2⟩⟩
  have hy:=zq (hx.o _ E1.o)
  clear hx E1
  unfold badQ at hy
  obtain⟨c1,h1⟩:=nm (t.x-s.x==0)
  obtain⟨c2,h2⟩:=nm (t.y-s.y==0)
  obtain⟨c3,h3⟩:=nm (s.x-p.x==0)
  rw[h1,h2,h3]at hy
  cases c1<;>cases c2<;>cases c3
  all_goals
   have hb:=hy.o
   simp at hb
   clear hy
   have Hb:=zq hb
   clear hb
   gi_wp2
   first
    |exact⟨HF.o,HG.o,H1'.o,Yx.o,Hb.o⟩
    |exact⟨Pb.o,rfl,HQ7.o,Dx.o,Hb.o⟩
    |(trace_state;fail)
 .obtain⟨h1,h2,h3⟩:=hI
  have r0:=h1.ce 0
  have rz:=h1.fz 0
  have lr:=h1.lt
  have HK:=zq (((dA W ⟨RB,0,δ⟩ (ω ι)).same D _ hK rfl))
  have q7:=h1.set 0 (ω ι)
  simp only[aX,bU]at q7
  have HQ7:=zq q7
  have Dx:=zq (h2.setCell (p:=⟨RB,0,δ⟩) (by show w.heap.size<=RB;exact qU ql.o) (ω ι))
  have HD:=zq (aA eG.o.size hD)
  have E:aQ ((decide (4<=n)&& !anyN (EV l) n)=ι):=by show _=_;rw[decide_eq_true oM,h3];rfl
  clear h1 h2 h3 hK hD q7
  go_wp2
  exact aN8 rfl (iD HK.o) (oG rfl _ _ RB (ω ι) rfl ((HQ7.o.putObj _ HK.o rfl).cell 0) (EW _)) ⟨by rw[E.o],Dx.o.trans (tK HD.o HK.o)⟩
 .obtain⟨rfl,h1,h2,h3⟩:=hI
  have E:aQ ((decide (4<=n)&& !anyN (EV l) n)=ν):=by show _=_;rw[h3,Bool.not_true,Bk]
  have HD:=zq (aA eG.o.size hD)
  go_wp2
  exact aN8 rfl (iD hK) (oG rfl _ _ RB (ω ν) rfl ((h1.putObj _ hK rfl).cell 0) (EW _)) ⟨by rw[E.o],h2.trans (tK HD.o hK)⟩
theorem aU9(x y):(sgI x*sgI x+sgI y*sgI y=1)↔((x==0)==(y==0))=ν:=by
 have h1:=rY x;have h2:=rY y;have z1:=xQ x;have z2:=xQ y;have e1:(x==0)=decide (sgI x=0):=Db oM;have e2:(y==0)=decide (sgI y=0):=Db oM;rw[e1,e2];generalize sgI y=v,sgI x=u at *;obtain rfl|rfl|rfl:u= -1\/u=0\/u=1:=oM;all_goals obtain rfl|rfl|rfl:v= -1\/v=0\/v=1:=oM
 all_goals decide
theorem aD8{a b c d:Int}(h1:((a==0)==(b==0))=ν)(h2:((c==0)==(d==0))=ν):sgI a*sgI d-sgI b*sgI c=0↔((a==0)==(c==0))=ι:=by
 have k1:=rY a;have k2:=rY b;have k3:=rY c;have k4:=rY d;rw[Db (p:=sgI a=0) (by have:=xQ a;omega),Db (p:=sgI b=0) (by have:=xQ b;omega)]at h1;rw[Db (p:=sgI c=0) (by have:=xQ c;omega),Db (p:=sgI d=0) (by have:=xQ d;omega)]at h2;rw[Db (a:=a) (p:=sgI a=0) (by have:=xQ a;omega),Db (a:=c) (p:=sgI c=0) (by have:=xQ c;omega)];generalize sgI d=y,sgI c=x,sgI b=v,sgI a=u at *;obtain rfl|rfl|rfl:u= -1\/u=0\/u=1:=oM;all_goals obtain rfl|rfl|rfl:v= -1\/v=0\/v=1:=oM
 all_goals first |(exfalso;revert h1;decide)|skip
 all_goals obtain rfl|rfl|rfl:x= -1\/x=0\/x=1:=oM
 all_goals obtain rfl|rfl|rfl:y= -1\/y=0\/y=1:=oM
 all_goals first |(exfalso;revert h2;decide)|decide
theorem I9{l:List Sd}(hk:k<l.length):fR l (pre l.length k)=l.getD k Γ:=by
 unfold fR pre;congr 1;rcases Nat.eq_zero_or_pos k with h|h
 .subst h;rw[bD,aT (by omega:l.length-1<l.length),show l.length-1+1=l.length by omega,Nat.mod_self]
 .rw[show k+l.length-1=(k-1)+l.length by omega,Nat.add_mod_right,aT (by omega:k-1<l.length),show k-1+1=k by omega,aT hk]
theorem aV0(l):pE l=(decide (4<=l.length)&& !anyN (EV l) l.length):=by
 unfold pE;rw[Bool.and_comm];congr 2;have key:(∀k,k<l.length->xP l k=ν)↔(∀k,k<l.length->EV l k=ν):=by
  have a1:∀k,(Dq l k*Dq l k+dY l k*dY l k=1)↔(((fR l k).x-(l.getD k Γ).x==0)==((fR l k).y-(l.getD k Γ).y==0))=ν:=fun k=>aU9 _ _;have a2:∀k,k<l.length->(((l.getD k Γ).x-(l.getD (pre l.length k) Γ).x==0)==((l.getD k Γ).y-(l.getD (pre l.length k) Γ).y==0))=ν->(((fR l k).x-(l.getD k Γ).x==0)==((fR l k).y-(l.getD k Γ).y==0))=ν->
   (UB l k=0↔(((l.getD k Γ).x-(l.getD (pre l.length k) Γ).x==0)==((fR l k).x-(l.getD k Γ).x==0))=ι):=fun k hk h1 h2=>by
   have:=aD8 h1 h2;unfold UB Dq dY;rw[I9 hk];exact this
  constructor
  .intro h k hk;have b1:=h k hk;have b2:=h _ (KA hk);unfold xP at b1 b2;simp only[jA,vS,decide_eq_true_eq,decide_eq_false_iff_not]at b1 b2;have c1:=(a1 k).1 b1.1;have c2:=(a1 _).1 b2.1;rw[I9 hk]at c2;unfold EV badQ;rw[c1,nZ];cases e:(((l.getD k Γ).x-(l.getD (pre l.length k) Γ).x==0)==((fR l k).x-(l.getD k Γ).x==0))
   .rfl
   .exact absurd ((a2 k hk c2 c1).2 e) b1.2
  .intro h k hk;have b1:=h k hk;have b2:=h _ (KA hk);unfold EV badQ at b1 b2;rw[jA]at b1 b2;have c2:=b2.1;rw[I9 hk]at c2;unfold xP;rw[decide_eq_true ((a1 k).2 b1.1),decide_eq_false (fun e=>by have:=(a2 k hk c2 b1.1).1 e;rw[b1.2]at this;cases this)];rfl
 rw[oC];have n1:=@bJ (xP l) l.length;have n2:=@bJ (EV l) l.length;cases e1:anyN (xP l) l.length<;>cases e2:anyN (EV l) l.length
 .simp
 .rw[n2.2 (key.1 (n1.1 e1))]at e2;cases e2
 .rw[n1.2 (key.2 (n2.1 e2))]at e1;cases e1
 .simp
theorem vp(a n cap l w)(hl:l.length=n)(hn:n<=1000)(hC:C8 l)(r:mJ w a l):
 aE γ 97 #[Θ a n cap] w (Rt (ω (pE l)) w):=by
 rw[aV0,hl];exact Z7 a n cap l w hl hn hC r
end
end
section
open Go Go.RowKit Go.Lib
theorem G9(n f t w):aE γ 140 #[Υ Ξ n,Υ Ξ f,Υ Ξ t] w fun e w'=>e=σ (ω (!outI n f t))/\w=w':=by
 have E:aQ ((!outI n f t)=(decide (f<=n)&&decide (n<=t))):=by
  show _=_;unfold outI;rw[Bool.not_or,<-decide_not,<-decide_not];congr 1<;>(congr 1;simp[Int.not_lt])
 generalize(!outI n f t)=R at *;by_cases h:f<=n
 .rw[decide_eq_true h,iO]at E;have h':n≥f:=h;go_enter func140,ntmps140;go_wp2;go_ret;exact⟨by rw[E.o]<;>rfl,rfl⟩
 .rw[decide_eq_false h,wT]at E;have h':(f<=n)=False:=eq_false h;go_enter func140,ntmps140;go_wp2;go_ret;exact⟨by rw[E.o]<;>rfl,rfl⟩
def Z8(x y p o:Int)(k:Nat):Bool:=outI ([x,y,p,o].getD k 0) 0 65536
theorem vr(s w):aE γ 94 #[s.v] w (Rt (ω (yT s)) w):=by
 obtain⟨x,y,rise,run,gable,plate,over⟩:=s;have E:aQ (yT ⟨x,y,rise,run,gable,plate,over⟩=(!(anyN (Z8 x y plate over) 4)&&(if gable=ι then(rise==0)&&(run==0)else !outI rise 1 48&& !outI run 1 48))):=by
  show _=_;unfold yT anyN anyN anyN anyN anyN Z8;simp only[List.getD_cons_zero,List.getD_cons_succ,nZ,Up]
 have H5:=zq (fun W=>G9 rise 1 48 W);have H6:=zq (fun W=>G9 run 1 48 W);have HO:=zq (fun k W=>G9 ([x,y,plate,over].getD k 0) 0 65536 W);have EK:aQ (∀k,Z8 x y plate over k=outI ([x,y,plate,over].getD k 0) 0 65536):=fun k=>rfl;have Uw:aQ (∀k,k<4->Z8 x y plate over k=ι->anyN (Z8 x y plate over) 4=ι):=fun k hk h=>eF.2 ⟨k,hk,h⟩;generalize yT ⟨x,y,rise,run,gable,plate,over⟩=R at *;obtain⟨A,hA⟩:=nm (anyN (Z8 x y plate over) 4);rw[hA]at E;generalize outI run 1 48=b6,outI rise 1 48=b5 at *;have HB:=zq (nA w (π #[Υ Ξ x,Υ Ξ y,Υ Ξ rise,Υ Ξ run,ω gable,Υ Ξ plate,Υ Ξ over] 84));have hq:=bE.new w #[Υ Ξ x,Υ Ξ y,Υ Ξ rise,Υ Ξ run,ω gable,Υ Ξ plate,Υ Ξ over] 84;obtain⟨W0,fI⟩:=nm (w.alloc (π #[Υ Ξ x,Υ Ξ y,Υ Ξ rise,Υ Ξ run,ω gable,Υ Ξ plate,Υ Ξ over] 84));rw[fI]at HB hq;have HW:=zq fI;have HQ:=zq hq;have hx:aQ ((gable=ι/\((rise==0)=ν/\R=ν\/rise=0/\(run==0)=ν/\R=ν)\/gable=ν/\(b5=ι/\R=ν\/b5=ν/\b6=ι/\R=ν))\/(gable=ι/\rise=0/\run=0\/gable=ν/\b5=ν/\b6=ν)/\R= !A):=by
  show _\/_;rw[E.o];cases A<;>cases gable<;>cases b5<;>cases b6<;>by_cases h:rise=0<;>by_cases h2:run=0<;>simp[h,h2]
 have HA:=zq hA;clear E fI hq hA;unfold Sd.v Sd.cells;simp only[];refine eE func94 rfl ?_;simp only[ntmps94,bI,aC,bB,cL,dF,bG,bH,cE,bN,cM,bV];go_upto_region 1 with(fail)
 rw[HW.o];clear HW;obtain⟨s0,s1,s2,s3,s4,s5,s6⟩:=Dt HQ.o;rcases hx.o with(⟨rfl,(⟨h,rfl⟩|⟨rfl,h,rfl⟩)⟩|⟨rfl,(⟨rfl,rfl⟩|⟨rfl,rfl,rfl⟩)⟩)|⟨(⟨rfl,rfl,rfl⟩|⟨rfl,rfl,rfl⟩),rfl⟩;all_goals clear hx
 iterate 4
  .go_wp2_with (first
    |((with_reducible refine(H5.o _).mono ?_);rintro e w1 ⟨rfl,rfl⟩)
    |((with_reducible refine(H6.o _).mono ?_);rintro e w1 ⟨rfl,rfl⟩)
    |fail)
   exact sC (iH Qj _ _ _) rfl ⟨rfl,HB.o⟩
 all_goals
  go_wp2_with (first
   |((with_reducible refine(H5.o _).mono ?_);rintro e w1 ⟨rfl,rfl⟩)
   |((with_reducible refine(H6.o _).mono ?_);rintro e w1 ⟨rfl,rfl⟩)
   |fail)
  have HN:=zq (HB.o.alloc HB.o.size (π #[Υ Ξ x,Υ Ξ y,Υ Ξ plate,Υ Ξ over] 3));have hv:=bE.new W0 #[Υ Ξ x,Υ Ξ y,Υ Ξ plate,Υ Ξ over] 3;obtain⟨W1,tZ⟩:=nm (W0.alloc (π #[Υ Ξ x,Υ Ξ y,Υ Ξ plate,Υ Ξ over] 3));rw[tZ]at HN hv|-;generalize W0.heap.size=VB at *;have Hc:aQ (∀k,k<4->W1.cell? ⟨VB,k,δ⟩=ζ (Υ Ξ ([x,y,plate,over].getD k 0))):=fun k hk=>by
   obtain rfl|rfl|rfl|rfl:k=0\/k=1\/k=2\/k=3:=oM;all_goals exact hv.cell _
  clear tZ hv HB HQ s0 s1 s2 s3 s4 s5 s6 H5 H6;go_loopw[35] (fun i wr=>∃k:Nat,i=Υ Ξ k/\k<=4/\wr=W1/\aQ (anyN (Z8 x y plate over) k=ν)) (fun i _=>4-(ξ i).toNat);case atStart=>exact⟨0,rfl,oM,rfl,rfl⟩
  case round=>
   obtain⟨k,rfl,hk,rfl,HP⟩:=hrel;by_cases hlt:k<4
   .have ck:=Hc.o k hlt;have HOk:=zq (HO.o k);have e:=zq (EK.o k);obtain⟨v,hv⟩:=nm ([x,y,plate,over].getD k 0);rw[hv]at ck HOk e;cases ho:outI v 0 65536
    .rw[ho]at e HOk;have hs:=zq (iA HP.o e.o);clear Hc;go_wp2_with (first
      |((with_reducible refine(HOk.o _).mono ?_);rintro e w1 ⟨rfl,rfl⟩)
      |fail)
     go_roundw;case rel=>exact⟨k+1,by go_num,oM,sP,hs.o⟩
     case measure=>simp only[ξ];omega
    .rw[ho]at e HOk;have hs:=zq (Uw.o k hlt e.o);rw[HA.o]at hs;clear Hc;go_wp2_with (first
      |((with_reducible refine(HOk.o _).mono ?_);rintro e w1 ⟨rfl,rfl⟩)
      |fail)
     exact sC (iH Qj _ _ _) rfl ⟨by rw[hs.o]<;>rfl,HN.o⟩
   .obtain rfl:k=4:=oM;have e:=HP.o;rw[HA.o]at e;go_wp2;exact sC (iH Qj _ _ _) rfl ⟨by rw[e]<;>rfl,HN.o⟩
theorem vv(s w):aE γ 93 #[s.v] w (Rt (ω (!yT s)) w):=by
 have HB:=zq (nA w (π s.cells 84));have hq:=bE.new w s.cells 84;obtain⟨W0,fI⟩:=nm (w.alloc (π s.cells 84));rw[fI]at HB hq;have HW:=zq fI;have HQ:=zq hq;have HR:=zq (vr s W0);clear fI hq;obtain⟨x,y,rise,run,gable,plate,over⟩:=s;generalize yT ⟨x,y,rise,run,gable,plate,over⟩=B at *;unfold Sd.v Sd.cells at *;simp only[]at *;refine eE func93 rfl ?_;simp only[ntmps93,bI,aC,bB,cL,dF,bG,bH,cE,bN,cM,bV];go_upto_region 1 with(fail)
 rw[HW.o];clear HW;obtain⟨s0,s1,s2,s3,s4,s5,s6⟩:=Dt HQ.o;go_wp2_with fail
 refine ka HR.o fun W hb=>?_;have hb:=HB.bS hb;go_wp2;exact sC (iH Tryz.results93 _ _ _) rfl ⟨rfl,hb.o⟩
def bxV(a b c d:Int):χ:=bQ #[Υ Ξ a,Υ Ξ b,Υ Ξ c,Υ Ξ d]
theorem four{b:Nat}(h:bE W b #[u0,u1,u2,u3] T):W.cell? ⟨b,0,δ⟩=ζ u0/\W.cell? ⟨b,1,δ⟩=ζ u1/\W.cell? ⟨b,2,δ⟩=ζ u2/\W.cell? ⟨b,3,δ⟩=ζ u3:=⟨h.cell 0,h.cell 1,h.cell 2,h.cell 3⟩
theorem MJ{W0:η}{ds:Array χ}(h:(w.alloc (π cs T1)).alloc (π ds T2)=W0):bE W0 w.heap.size cs T1/\bE W0 (w.heap.size+1) ds T2/\Bw w W0:=Of h
theorem an0(a b c d p q r s w):aE γ 147 #[bxV a b c d,bxV p q r s] w fun e w'=>
 e=σ (ω (decide (a<=r)&&(decide (p<=c)&&(decide (b<=s)&&decide (q<=d)))))/\Bw w w':=by
 obtain⟨W0,fI⟩:=nm ((w.alloc (π #[Υ Ξ a,Υ Ξ b,Υ Ξ c,Υ Ξ d] 221)).alloc (π #[Υ Ξ p,Υ Ξ q,Υ Ξ r,Υ Ξ s] 221));obtain⟨h1,h2,h3⟩:=MJ fI;have HB:=zq h3;obtain⟨s0,s1,s2,s3⟩:=four h1;obtain⟨r0,r1,r2,r3⟩:=four h2;have HW:=zq fI;obtain⟨T,hT⟩:=nm (decide (a<=r)&&(decide (p<=c)&&(decide (b<=s)&&decide (q<=d))));rw[hT];have hx:aQ ((a<=r)=False/\T=ν\/a<=r/\(p<=c)=False/\T=ν\/a<=r/\p<=c/\(b<=s)=False/\T=ν\/a<=r/\p<=c/\b<=s/\T=decide (q<=d)):=by
  rw[<-hT];show _\/_;by_cases h1:a<=r<;>by_cases h2:p<=c<;>by_cases h3:b<=s<;>simp only[h1,h2,h3,decide_true,decide_false,iO,wT,true_and,false_and,and_true,and_false,or_true,or_false,false_or,true_or,eq_self_iff_true,not_true,not_false_eq_true]
 clear hT h1 h2 h3 fI;unfold bxV;refine eE func147 rfl ?_;simp only[ntmps147,bI,aC,bB,cL,dF,bG,bH,cE,bN,cM,bV];go_upto_region 1 with(fail)
 rw[HW.o];clear HW;rcases hx.o with⟨h1,rfl⟩|⟨h1,h2,rfl⟩|⟨h1,h2,h3,rfl⟩|⟨h1,h2,h3,rfl⟩;all_goals
  clear hx;go_wp2;exact sC (iH Tryz.results147 _ _ _) rfl ⟨rfl,HB.o⟩
theorem aD9(W):(isAgg 221).run γ W=.ok ι W:=by first |rfl|kernel_rfl
theorem an1(W):(sizeOf 221).run γ W=.ok 4 W:=by first |rfl|kernel_rfl
theorem KC{p:Tmp}(h:fn.results= #[.cell p ty])(tmps w g x y z u)(hp:tmps.getD p ψ=aB (ζ ⟨g,0,δ⟩))(hb:bE w g #[x,y,z,u] T)(ha:∀w,(isAgg ty).run P w=.ok ι w)(hs:∀w,(sizeOf ty).run P w=.ok 4 w):
 (gP fn tmps).run P w=.ok (bQ #[x,y,z,u]) w:=by
 have S7:tmps[p]?.getD ψ=aB (ζ ⟨g,0,δ⟩):=by simpa using hp
 have c0:=hb.ce 0;have c1:=hb.ce 1;have c2:=hb.ce 2;have c3:=hb.ce 3;simp[gP,h,go_sem,S7,c0,c1,c2,c3,ha,hs]
theorem bE.set4{b:Nat}{x y o:χ}(h:bE W b #[x,y,z,o] T)(u v r q):bE ((((W.setCell ⟨b,0,δ⟩ u).setCell ⟨b,1,δ⟩ v).setCell ⟨b,2,δ⟩ r).setCell ⟨b,3,δ⟩ q) b #[u,v,r,q] T:=(((h.set 0 u).set 1 v).set 2 r).set 3 q
theorem Z9(h:Below B w W)(hc:B<=c)(u v r q):Below B w ((((W.setCell ⟨c,0,δ⟩ u).setCell ⟨c,1,δ⟩ v).setCell ⟨c,2,δ⟩ r).setCell ⟨c,3,δ⟩ q):=
 (((h.setCell (p:=⟨c,0,δ⟩) hc u).setCell (p:=⟨c,1,δ⟩) hc v).setCell (p:=⟨c,2,δ⟩) hc r).setCell (p:=⟨c,3,δ⟩) hc q
theorem an2(p s t w):aE γ 146 #[bQ (I7 p s t)] w fun e w'=>
 e=σ (bxV (DB s.x t.x) (DB s.y t.y) (DC s.x t.x) (DC s.y t.y))/\Bw w w':=by
 obtain⟨W0,fI⟩:=nm ((w.alloc (π (I7 p s t) 212)).alloc (π #[Υ Ξ 0,Υ Ξ 0,Υ Ξ 0,Υ Ξ 0] 221));obtain⟨h1,h2,h3⟩:=MJ fI;have HB:=zq h3;have H1:=zq h1;have H2:=zq h2;have HW:=zq fI;have CD:=zq (fun W=>mX s W);have LK:=zq (fun W=>mX t W);clear h1 h2 h3 fI;refine eE func146 rfl ?_;simp only[ntmps146,bI,aC,bB,cL,dF,bG,bH,cE,bN,cM,bV];go_upto_region 1 with(fail)
 rw[HW.o];clear HW;obtain⟨Q,hQ⟩:=nm w.heap.size;have HRW:aQ (Q+1<W0.heap.size):=by rw[<-hQ];exact H2.o.lt
 have HQe:=zq hQ;rw[hQ]at H1 H2;have E1:w.heap.size+1=Q+1:=by rw[hQ]
 rw[hQ]at|-;refine tJ 9 (fun |6=>.alloc #[Υ Ξ 0,Υ Ξ 0] 214|7=>.alloc #[Υ Ξ 0,Υ Ξ 0] 214|8=>.store|_=>.quiet) (fun w'=>bE w' Q (I7 p s t) 212) H1.o ?_ (st:=fun w1 w2 h hb=>h.below hb H1.o.lt);refine qS 0 rfl (pu ?_);refine qL 1 Q 7 #[Υ Ξ s.x,Υ Ξ s.y,Υ Ξ s.rise,Υ Ξ s.run,ω s.gable,Υ Ξ s.plate,Υ Ξ s.over] (fun V h=>h.1) rfl (pu ?_);refine qC 2 (fun W _=>CD.o W) rfl (pu ?_);refine qS 3 rfl (pu ?_);refine qL 4 Q 14 #[Υ Ξ t.x,Υ Ξ t.y,Υ Ξ t.rise,Υ Ξ t.run,ω t.gable,Υ Ξ t.plate,Υ Ξ t.over] (fun V h=>h.1) rfl (pu ?_);refine qC 5 (fun W _=>LK.o W) rfl (pu ?_);refine qA 6 [6,7] #[Υ Ξ 0,Υ Ξ 0] 214 rfl (fun g5 sj hn5=>pu ?_) (hal:=fun j hj=>by simp at hj;rcases hj with rfl|rfl<;>exact⟨_,_,rfl,dD⟩);refine qA 7 [7] #[Υ Ξ 0,Υ Ξ 0] 214 rfl (fun g6 hg6 hn6=>pu ?_) (hal:=fun j hj=>by simp at hj;rcases hj with rfl;exact⟨_,_,rfl,dD⟩);have hne:g5≠g6:=fun e=>by subst e;unfold DQ at hn6;rw[ip rfl]at hn6;cases hn6
 refine qW 8 g5 #[Υ Ξ s.x,Υ Ξ s.y] #[Υ Ξ 0,Υ Ξ 0] 214 rfl (by unfold DQ;rw[iN hne,ip rfl]) sj ?_ Ww;refine qT fun V hV hG=>?_;have b5:bE V g5 #[Υ Ξ s.x,Υ Ξ s.y] 214:=hG g5 _ _ (by unfold DQ;rw[ip rfl]);have b6:bE V g6 #[Υ Ξ 0,Υ Ξ 0] 214:=hG g6 _ _ (by unfold DQ;rw[iN (Ne.symm hne),ip rfl]);have uB:=hV.b;obtain⟨e0,e1,z0,z1,l6⟩:=tQ b6;have B6:=zq b6;have B5:=zq b5;have vm:=zq uB;have Hg6:=zq hg6;have Hg5:=zq sj;have vo:=zq hne;clear b5 b6 uB hV hG hg6 sj hn5 hn6 hne CD LK;refine eI 9 [] rfl (fun K hK=>?_) dW;rw[ip kF];go_simp;refine hK _ _ (pu ?_);refine mL kF ?_ _;refine jH.normal ?_;have q6:=(B6.o.set 0 (Υ Ξ t.x)).set 1 (Υ Ξ t.y);simp only[aX,bU,cR]at q6;have q5:=(B5.o.other (a:=⟨g6,0,δ⟩) (Υ Ξ t.x) vo.o).other (a:=⟨g6,1,δ⟩) (Υ Ξ t.y) vo.o;have hb2:=(vm.o.setCell (p:=⟨g6,0,δ⟩) Hg6.o (Υ Ξ t.x)).setCell (p:=⟨g6,1,δ⟩) Hg6.o (Υ Ξ t.y);clear hK e0 e1 z0 z1 l6 B6 B5 vm;generalize(V.setCell ⟨g6,0,δ⟩ (Υ Ξ t.x)).setCell ⟨g6,1,δ⟩ (Υ Ξ t.y)=V2 at *;obtain⟨u0,u1,-,-,l5⟩:=tQ q5;obtain⟨v0,v1,-,-,l6⟩:=tQ q6;have h2:=H2.o.below hb2 HRW.o;have lr:=h2.lt;have y0:=h2.fz 0;have y1:=h2.fz 1;have y2:=h2.fz 2;have y3:=h2.fz 3;obtain⟨w0,w1,w2,w3⟩:=four h2;have H2':=zq h2;have jo:=HB.bS hb2;obtain⟨A1,Yw⟩:=nm ((if t.x<s.x then t.x else s.x));obtain⟨A2,hA2⟩:=nm ((if s.x<t.x then t.x else s.x));obtain⟨A3,hA3⟩:=nm ((if t.y<s.y then t.y else s.y));obtain⟨A4,hA4⟩:=nm ((if s.y<t.y then t.y else s.y));have mA1:=C9 Yw;have mA2:=Da hA2;have mA3:=C9 hA3;have mA4:=Da hA4;clear h2 hb2 H1 H2 q5 q6;go_wp2;refine sC (v:=bxV A1 A3 A2 A4) (KC rfl _ _ (Q+1) _ _ _ _ rfl (bE.set4 H2'.o _ _ _ _) aD9 an1) rfl ⟨?_,Z9 jo.o (by rw[<-HQe.o];exact Jq _) _ _ _ _⟩;unfold DB DC;rw[Yw,hA2,hA3,hA4]
def GE(f:Nat->List Sd)(r s:Nat):Bool:=!decide (s=r)&&(I8 (f s) ((f r).getD 0 Γ).x ((f r).getD 0 Γ).y !=decide (s=0))
def AQ(f:Nat->List Sd)(N r:Nat):Bool:=decide (0<=rZ (f r) (f r).length)||anyN (GE f r) N
def Ba(f:Nat->List Sd)(N:Nat):Bool:=!decide (rZ (f 0) (f 0).length<=0)&& !anyN (fun r=>decide (1<=r)&&AQ f N r) N
theorem aE0{f:Nat->List Sd}(h1:1<=r)(h2:r<N)(h:AQ f N r=ι):Ba f N=ν:=by
 unfold Ba;rw[eF.2 ⟨r,h2,by rw[decide_eq_true h1,h];rfl⟩];simp
theorem aa(a N cap rs w)(hl:rs.length=N)(hN:N<=1000)(LH:0 < N)(hn:∀ r,(aF rs r).length<=1000)(hp:∀ r,r < N->0 < (aF rs r).length)(hC:∀ r,C8 (aF rs r))(rr:GB w a rs):
    aE γ 35 #[Θ a N cap] w fun e w'=>e=σ (ω (Ba (aF rs) N))/\Dr w w':=by
  have HT:=zq (fun r (_:r < N) W (hW:Dr w W)=>ve (rs.getD r Γ).a (aF rs r).length (rs.getD r Γ).cap (aF rs r) W rfl (hn r) (hC r) ((rr.below hW.below).at (i:=r) oM rfl).choose_spec.choose_spec.2.2)
  have HI:=zq (fun r (_:r < N) x y W (hW:Dr w W)=>Z6 (rs.getD r Γ).a (aF rs r).length (rs.getD r Γ).cap (aF rs r) x y W rfl (hn r) ((rr.below hW.below).at (i:=r) oM rfl).choose_spec.choose_spec.2.2)
  have HR:=zq rr
  have HL:=zq hl
  have HP:=zq hp
  have X1:aQ (decide (rZ (aF rs 0) (aF rs 0).length<=0)=ι->Ba (aF rs) N=ν):=fun h=>by unfold Ba;rw [h];rfl
  have X2:aQ (∀ r,1<=r->r < N->AQ (aF rs) N r=ι->Ba (aF rs) N=ν):=fun r h1 h2 h=>aE0 h1 h2 h
  have X3:aQ (decide (rZ (aF rs 0) (aF rs 0).length<=0)=ν->anyN (fun r=>decide (1<=r) && AQ (aF rs) N r) N=ν->Ba (aF rs) N=ι):=fun h h2=>by unfold Ba;rw [h,h2];rfl
  clear hl rr hp hn hC
  generalize Ba (aF rs) N=R at *
  obtain⟨b,o,rfl,c0,-⟩:=HR.o.at (i:=0) (by rw [HL.o];exact LH) rfl
  have jg:=zq (HT.o 0 LH w (.refl w))
  rw [show(rs.getD 0 Γ).ss.length=(aF rs 0).length from rfl,jN] at c0
  generalize (aF rs 0).length=n0 at *
  generalize (rs.getD 0 Γ).a=a0 at *
  generalize (rs.getD 0 Γ).cap=q0 at *
  generalize rZ (aF rs 0) n0=T0 at *
  go_enter func35,ntmps35
  go_wp2_with fail
  refine ka jg.o fun W hd=>?_
  have HD:=zq hd
  clear hd jg c0
  by_cases h0:T0<=0
  . have e1:=zq (X1.o (decide_eq_true h0))
    go_wp2
    go_ret
    exact⟨by rw [e1.o] <;> rfl,HD.o⟩
  . have e0:=zq (X3.o (decide_eq_false h0))
    clear X1 X3
    go_wp2
    go_loopw [3] (fun i wr=>∃ r:Nat,i=Υ Ξ r/\1<=r/\r<=N/\aQ (anyN (fun r=>decide (1<=r) && AQ (aF rs) N r) r=ν)/\aQ (Dr w wr)) (fun i _=>N - (ξ i).toNat)
    case atStart=>exact⟨1,rfl,θ _,LH,rfl,HD.o⟩
    case round=>
      clear HD
      obtain⟨r,rfl,hr1,hr,HA,HD⟩:=hrel
      rename η=>wr
      by_cases hrN:r < N
      . obtain⟨b',o',e1,c0,RD⟩:=(HR.o.below HD.o.below).at (i:=r) (by rw [HL.o];exact hrN) rfl
        injection e1 with e1;injection e1 with e1 e2;subst e1 e2
        have Ka:=zq (HT.o r hrN wr HD.o)
        have hpr:0 < (rs.getD r Γ).ss.length:=HP.o r hrN
        have hpn:=HP.o r hrN
        have GD:=zq RD
        have E:aQ (AQ (aF rs) N r=(decide (0<=rZ (aF rs r) (aF rs r).length) || anyN (GE (aF rs) r) N)):=rfl
        have X2r:=zq (X2.o r hr1 hrN)
        have X4:=zq (fun h:AQ (aF rs) N r=ν=>iA (p:=fun r=>decide (1<=r) && AQ (aF rs) N r) HA.o (by rw [decide_eq_true hr1,h];rfl))
        rw [show(rs.getD r Γ).ss.length=(aF rs r).length from rfl] at c0
        clear RD
        generalize (aF rs r).length=n at *
        generalize (rs.getD r Γ).a=ar at *
        generalize (rs.getD r Γ).cap=cr at *
        generalize rZ (aF rs r) n=T at *
        have hrI:(r:Int) < N:=oM
        go_wp2_with fail
        refine ka Ka.o fun W2 hd=>?_
        have Pu:=zq (HD.o.trans hd)
        have c0:=aY hd.below c0
        have GD:=zq (GD.o.below hd.below)
        clear hd Ka
        by_cases h1:0<=T
        . have e1:=zq (X2r.o (by rw [E.o,decide_eq_true h1];rfl))
          go_wp2
          go_ret
          exact⟨by rw [e1.o] <;> rfl,Pu.o⟩
        . rw [decide_eq_false h1,nZ] at E
          obtain⟨ab,ao,rfl,d0,d1,-⟩:=GD.o.at (i:=0) hpr rfl
          simp only [vO,jN] at d0 d1
          have HRz:=zq GD.o
          clear GD
          go_wp2
          go_loopw [4] (fun i ws=>∃ s:Nat,i=Υ Ξ s/\s<=N/\aQ (anyN (GE (aF rs) r) s=ν)/\aQ (Dr W2 ws)) (fun i _=>N - (ξ i).toNat)
          case atStart=>exact⟨0,rfl,aP _,rfl,Dr.refl _⟩
          case round=>
            obtain⟨s,rfl,hs,PA,UC⟩:=hrel
            rename η=>ws
            by_cases hsN:s < N
            . obtain⟨b',o',e1,k0, -⟩:=(HR.o.below (Pu.o.trans UC.o).below).at (i:=s) (by rw [HL.o];exact hsN) rfl
              injection e1 with e1;injection e1 with e1 e2;subst e1 e2
              have c0:=aY UC.o.below c0
              have d0:=aY UC.o.below d0
              have d1:=aY UC.o.below d1
              rw [show(rs.getD s Γ).ss.length=(aF rs s).length from rfl] at k0
              have HIs:=zq (fun W hW=>HI.o s hsN ((aF rs r).getD 0 Γ).x ((aF rs r).getD 0 Γ).y W hW)
              have E2:aQ (GE (aF rs) r s=(!decide (s=r) && (I8 (aF rs s) ((aF rs r).getD 0 Γ).x ((aF rs r).getD 0 Γ).y !=decide (s=0)))):=rfl
              have X5:=zq (fun h:GE (aF rs) r s=ι=>X2r.o (by rw [E.o];exact eF.2 ⟨s,hsN,h⟩))
              have X6:=zq (fun h:GE (aF rs) r s=ν=>iA PA.o h)
              have HDw:=zq (Pu.o.trans UC.o)
              have hsI:(s:Int) < N:=oM
              generalize GE (aF rs) r s=B at *
              generalize I8 (aF rs s) ((aF rs r).getD 0 Γ).x ((aF rs r).getD 0 Γ).y=I at *
              rw [show(rs.getD r Γ).ss=aF rs r from rfl] at d0 d1
              generalize ((aF rs r).getD 0 Γ).x=x0 at *
              generalize ((aF rs r).getD 0 Γ).y=y0 at *
              generalize (aF rs s).length=m at *
              generalize (rs.getD s Γ).a=as' at *
              generalize (rs.getD s Γ).cap=cs at *
              by_cases hsr:s=r
              . have hq:((s:Int) !=(r:Int))=ν:=by rw [hsr];simp
                have e1:=zq (X6.o (by rw [E2.o,decide_eq_true hsr];rfl))
                clear hsr
                go_wp2
                go_quiet (fail)
                go_wp2
                go_roundw
                case rel=>exact⟨s+1,by go_num,oM,e1.o,UC.o.trans (.drewN _ _)⟩
                case measure=>simp only [ξ];omega
              . have hq:((s:Int) !=(r:Int))=ι:=by rw [bne_iff_ne];omega
                have hz:((s:Int)==0)=decide (s=0):=Db oM
                have hz':decide (s=0)=decide (s=0):=rfl
                rw [decide_eq_false hsr,Bool.not_false,iO] at E2
                obtain⟨Z,hZ⟩:=nm (decide (s=0))
                rw [hZ] at hz E2
                clear hz' hZ hsr
                go_wp2
                go_quiet ((go_at_call 84;exact Calls.quiet_of (HIs.o _ (HDw.o.trans (.drewN _ _)))))
                cases I <;> cases Z
                case' true.false=>have e1:=zq (X5.o E2.o)
                case' false.true=>have e1:=zq (X5.o E2.o)
                case' true.true=>have e1:=zq (X6.o E2.o)
                case' false.false=>have e1:=zq (X6.o E2.o)
                all_goals
                  clear E2 X5 X6
                  go_wp2
                  first
                    | (go_roundw
                       case rel=>exact⟨s+1,by go_num,oM,e1.o,UC.o.trans (.drewN _ _)⟩
                       case measure=>simp only [ξ];omega)
                    | (go_ret;exact⟨by rw [e1.o] <;> rfl,HDw.o.trans (.drewN _ _)⟩)
                    | fail
            . obtain rfl:N=s:=oM
              have e1:=zq (X4.o (by rw [E.o];exact PA.o))
              go_wp2
              go_roundw
              case rel=>exact⟨r+1,by go_num,oM,oM,e1.o,Pu.o.trans UC.o⟩
              case measure=>simp only [ξ];omega
      . obtain rfl:N=r:=oM
        have e1:=zq (e0.o HA.o)
        go_wp2
        go_ret
        exact⟨by rw [e1.o] <;> rfl,HD.o⟩
def bY(f:Nat->List Sd):Nat->Nat
 |0=>0
 |n+1=>bY f n+(f n).length
def Mg(f:Nat->List Sd)(r:Nat):Bool:=decide ((f r).length=0)
def KD(l:List Sd)(i:Nat):Bool:=!yT (l.getD i Γ)
def Hu(f:Nat->List Sd)(r:Nat):Bool:=anyN (KD (f r)) (f r).length
def FZ(f:Nat->List Sd)(r:Nat):Bool:=!pE (f r)
def oX(f:Nat->List Sd)(N:Nat):Int:=
 if N=0\/anyN (Mg f) N=ι then 5 else if 24<bY f N then 4 else if anyN (Hu f) N=ι then 2 else if anyN (FZ f) N=ι then 14 else if EO f N=ι then 15 else if(Ba f N&&G8 f N)=ι then 0 else 14
theorem jp{f:Nat->List Sd}(h:N=0):oX f N=5:=by unfold oX;rw[ip (.inl h)]
theorem jq{f:Nat->List Sd}(h:anyN (Mg f) N=ι):oX f N=5:=by unfold oX;rw[ip (.inr h)]
theorem jr{f:Nat->List Sd}(h:N≠0)(h1:anyN (Mg f) N=ν):oX f N=if 24<bY f N then 4 else if anyN (Hu f) N=ι then 2 else if anyN (FZ f) N=ι then 14 else if EO f N=ι then 15 else if(Ba f N&&G8 f N)=ι then 0 else 14:=by
 unfold oX;rw[iN];rintro(h2|h2)
 .exact h h2
 .rw[h1]at h2;cases h2
theorem Ja{f:Nat->List Sd}(h0:∀r,N<=r->f r=[])(h:anyN (Hu f) N=ν):∀r,C8 (f r):=fun r i=>by
 have hd:∀l:List Sd,l.length<=i->0<=(l.getD i Γ).x/\(l.getD i Γ).x<=65536/\0<=(l.getD i Γ).y/\(l.getD i Γ).y<=65536:=fun l hl=>by
  rw[Ω,nW hl]
  exact⟨AV 0,dD,AV 0,dD⟩
 rcases fO r N with hr|hr
 .rcases fO i (f r).length with hi|hi
  .have h2:=bJ.1 (bJ.1 h r hr) i hi
   unfold KD yT outI at h2
   generalize(f r).getD i Γ=s at *
   simp at h2
   omega
  .exact hd _ hi
 .rw[h0 r hr];exact hd _ (aP _)
theorem Fz{rs:List Rg}(h:rs.length<=r):aF rs r=[]:=by
 unfold aF;rw[Ω,nW h];rfl
theorem vw(a N cap rs w)(hl:rs.length=N)(hN:N<=1000)(hn:∀ r,(aF rs r).length<=1000)(rr:GB w a rs):
 aE γ 15 #[bQ #[Θ a N cap]] w (Rt (Υ Ξ (oX (aF rs) N)) w):=by
 have IU:=zq (fun (k:Nat) (hk:k<=N)=>(show bY (aF rs) k<=1000 * k from by
  clear hk;induction k with
  | zero=>exact θ _
  | succ k ih=>have:=hn k;show bY (aF rs) k+_<=_;omega))
 have HI:aQ (anyN (Hu (aF rs)) N=ν->∀ r,C8 (aF rs r)):=fun h=>Ja (fun r hr=>Fz oM) h;have HSh:=zq (fun (hc:∀ r,C8 (aF rs r)) r (_:r < N) W (hW:Bw w W)=>ZY (rs.getD r Γ).a (aF rs r).length (rs.getD r Γ).cap (aF rs r) W rfl (hn r) (hc r) ((rr.below hW).at (i:=r) oM rfl).choose_spec.choose_spec.2.2);have HCr:=zq (fun W (hW:Bw w W)=>WG a N cap rs W hl hN hn (rr.below hW));have ir:=zq (fun (h0:0 < N) (hp:∀ r,r < N->0 < (aF rs r).length) (hc:∀ r,C8 (aF rs r)) W (hW:Bw w W)=>qb (aa a N cap rs W hl hN h0 hn hp hc (rr.below hW)));have HRx:=zq (fun (hc:∀ r,C8 (aF rs r)) W (hW:Bw w W)=>Z1 a N cap rs W hl hN hn hc (rr.below hW));have HRg:=zq ZX;have HR:=zq rr;have HL:=zq hl;have Hn:=zq hn;have X0:aQ (N=0->oX (aF rs) N=5):=jp;have X1:aQ (∀ r,r < N->(aF rs r).length=0->oX (aF rs) N=5):=fun r hr h=>jq (eF.2 ⟨r,hr,by unfold Mg;rw [decide_eq_true h]⟩);have X2:aQ (N≠0->anyN (Mg (aF rs)) N=ν->oX (aF rs) N=if 24 < bY (aF rs) N then 4 else if anyN (Hu (aF rs)) N=ι then 2 else if anyN (FZ (aF rs)) N=ι then 14 else if EO (aF rs) N=ι then 15 else if (Ba (aF rs) N && G8 (aF rs) N)=ι then 0 else 14):=jr;clear hl hn rr;generalize oX (aF rs) N=R at *;have fL:=nA w (π #[Θ a N cap] 24);have vH:=bE.new w #[Θ a N cap] 24;obtain⟨W0,fI⟩:=nm (w.alloc (π #[Θ a N cap] 24));rw [fI] at fL vH;have gH:=zq fL;have rD:=zq vH;have b0:=vH.ce 0;clear fL vH;by_cases h0:N=0
 .have e1:=zq (X0.o h0);subst h0;go_enter func15,ntmps15;go_wp2;go_ret;(try rw [fI]);exact⟨by rw [e1.o] <;> rfl,gH.o⟩
 .have h0' :((N:Int)==0)=ν:=by rw [beq_eq_false_iff_ne];omega
  replace X2:=zq (X2.o h0);have hpos:0 < N:=oM;clear X0 h0;go_enter func15,ntmps15;go_upto_region 1 with (fail)
  try rw [fI]
  clear fI;go_wp2;go_loopw [3,4] (fun t i wr=>∃ r:Nat,i=Υ Ξ r/\t=Υ Ξ (bY (aF rs) r:Nat)/\r<=N/\aQ (anyN (Mg (aF rs)) r=ν)/\aQ (Bw W0 wr)) (fun _ i _=>N - (ξ i).toNat);case atStart=>exact⟨0,rfl,rfl,aP _,rfl,μ _ _⟩
  case round=>
   clear b0;obtain⟨r,rfl,rfl,hr,HA,HB⟩:=hrel;rename η=>wr;have b0:=(rD.o.below HB.o rD.o.lt).cell 0;simp only [bC,aU] at b0;by_cases hrN:r < N
   .obtain⟨b,o,rfl,c0,-⟩:=(HR.o.below (aW gH.o HB.o)).at (i:=r) (by rw [HL.o];exact hrN) rfl;rw [show(rs.getD r Γ).ss.length=(aF rs r).length from rfl] at c0;have LK:=IU.o r hr;have hlen:=Hn.o r;have X1r:=zq (X1.o r hrN);have E1:aQ (bY (aF rs) (r+1)=bY (aF rs) r+(aF rs r).length):=rfl;have X3:=zq (fun h:(aF rs r).length≠0=>iA (p:=Mg (aF rs)) HA.o (by unfold Mg;rw [decide_eq_false h]));generalize (aF rs r).length=n,bY (aF rs) r=C at *;have hrI:(r:Int) < N:=oM;by_cases hz:n=0
    .have e1:=zq (X1r.o hz);subst hz;go_wp2;go_ret;exact⟨by rw [e1.o] <;> rfl,aW gH.o HB.o⟩
    .have hz':((n:Int)==0)=ν:=by rw [beq_eq_false_iff_ne];omega
     have e1:=zq (X3.o hz);clear hz X3 X1r;go_wp2;go_roundw;case rel=>exact⟨r+1,by go_num,by rw [E1.o] <;> go_num,oM,e1.o,HB.o⟩
     case measure=>simp only [ξ];omega
   .obtain rfl:N=r:=oM;replace X2:=zq (X2.o HA.o);have HEm:=zq HA.o;have LK:=IU.o N hr;clear X1 HA IU;by_cases h24:24 < bY (aF rs) N
    .have e1:=zq (X2.o.trans (ip h24));generalize bY (aF rs) N=C at *;go_wp2;go_ret;exact⟨by rw [e1.o] <;> rfl,aW gH.o HB.o⟩
    .replace X2:=zq (X2.o.trans (iN h24));have Y1:aQ (∀ r,r < N->Hu (aF rs) r=ι->R=2):=fun r hr h=>X2.o.trans (ip (eF.2 ⟨r,hr,h⟩));replace X2:=zq (fun h:anyN (Hu (aF rs)) N=ν=>X2.o.trans (iN (by rw [h];decide)));generalize bY (aF rs) N=C at *;go_wp2;clear b0;go_loopw [5] (fun i wr=>∃ r:Nat,i=Υ Ξ r/\r<=N/\aQ (anyN (Hu (aF rs)) r=ν)/\aQ (Bw W0 wr)) (fun i _=>N - (ξ i).toNat);case atStart=>exact⟨0,rfl,aP _,rfl,HB.o⟩
     case round=>
      clear HB;obtain⟨r,rfl,hr,HA,HB⟩:=hrel;rename η=>wr;have b0:=(rD.o.below HB.o rD.o.lt).cell 0;simp only [bC,aU] at b0;by_cases hrN:r < N
      .obtain⟨b,o,rfl,c0,RD⟩:=(HR.o.below (aW gH.o HB.o)).at (i:=r) (by rw [HL.o];exact hrN) rfl;rw [show(rs.getD r Γ).ss=aF rs r from rfl] at c0 RD;have GD:=zq RD;have hlen:=Hn.o r;have Y1r:=zq (Y1.o r hrN);have E1:aQ (Hu (aF rs) r=anyN (KD (aF rs r)) (aF rs r).length):=rfl;have X3:=zq (fun h:Hu (aF rs) r=ν=>iA (p:=Hu (aF rs)) HA.o h);clear RD;have E2:aQ (∀ i,KD (aF rs r) i= !yT ((aF rs r).getD i Γ)):=fun i=>rfl;generalize aF rs r=l,(rs.getD r Γ).cap=cr,(rs.getD r Γ).a=ar at *;obtain⟨n,hn⟩:=nm l.length;have Uz:=zq hn;rw [hn] at c0 hlen E1;clear hn;have hrI:(r:Int) < N:=oM;go_wp2;go_loopw [6] (fun i wi=>∃ k:Nat,i=Υ Ξ k/\k<=n/\aQ (anyN (KD l) k=ν)/\aQ (Bw wr wi)) (fun i _=>n - (ξ i).toNat);case atStart=>exact⟨0,rfl,aP _,rfl,μ _ _⟩
       case round=>
        obtain⟨k,rfl,hk,PA,eU⟩:=hrel;rename η=>wi;have FV:=zq (aW HB.o eU.o);have b0:=aY eU.o b0;have c0:=aY eU.o c0;by_cases hkn:k < n
        .obtain⟨pb,po,rfl,f0,f1,f2,f3,f4,f5,f6⟩:=(GD.o.below eU.o).at (i:=k) (by rw [Uz.o];exact hkn) rfl;have E2k:=zq (E2.o k);have X4:=zq (fun h:KD l k=ι=>Y1r.o (by rw [E1.o];exact eF.2 ⟨k,hkn,h⟩));have X5:=zq (fun h:KD l k=ν=>iA (p:=KD l) PA.o h);have HRk:=zq (fun W=>HRg.o (l.getD k Γ) W);generalize l.getD k Γ=p at *;obtain⟨p0,p1,p2,p3,p4,p5,p6⟩:=p;simp only [] at f0 f1 f2 f3 f4 f5 f6;generalize yT ⟨p0,p1,p2,p3,p4,p5,p6⟩=D,KD l k=B at *;unfold Sd.v Sd.cells at HRk;simp only [] at HRk;go_wp2_with fail
         refine ka (HRk.o _) fun W hb=>?_;have HBy:=eU.bS hb;have HBz:=FV.bS hb;clear hb HRk f0 f1 f2 f3 f4 f5 f6;cases D with
         | false=>
          have e1:=zq (X4.o E2k.o);go_wp2;go_ret;exact⟨by rw [e1.o] <;> rfl,aW gH.o HBz.o⟩
         | true=>
          have e1:=zq (X5.o E2k.o);go_wp2;go_roundw;case rel=>exact⟨k+1,by go_num,oM,e1.o,HBy.o⟩
          case measure=>simp only [ξ];omega
        .obtain rfl:n=k:=oM;have e1:=zq (X3.o (by rw [E1.o];exact PA.o));go_wp2;go_roundw;case rel=>exact⟨r+1,by go_num,oM,e1.o,FV.o⟩
         case measure=>simp only [ξ];omega
      .obtain rfl:N=r:=oM;have hC:=HI.o HA.o;replace HSh:=zq (HSh.o hC);replace ir:=zq (ir.o hpos (fun r hr=>by have:=bJ.1 HEm.o r hr;unfold Mg at this;simp at this;exact List.length_pos_iff.2 this) hC);replace HRx:=zq (HRx.o hC);replace X2:=zq (X2.o HA.o);have Y2:aQ (∀ r,r < N->FZ (aF rs) r=ι->R=14):=fun r hr h=>X2.o.trans (ip (eF.2 ⟨r,hr,h⟩));replace X2:=zq (fun h:anyN (FZ (aF rs)) N=ν=>X2.o.trans (iN (by rw [h];decide)));clear HA HEm hC HI Y1 HRg;go_wp2;clear b0;go_loopw [7] (fun i wr=>∃ r:Nat,i=Υ Ξ r/\r<=N/\aQ (anyN (FZ (aF rs)) r=ν)/\aQ (Bw W0 wr)) (fun i _=>N - (ξ i).toNat);case atStart=>exact⟨0,rfl,aP _,rfl,HB.o⟩
       case round=>
        clear HB;obtain⟨r,rfl,hr,HA,HB⟩:=hrel;rename η=>wr;have b0:=(rD.o.below HB.o rD.o.lt).cell 0;simp only [bC,aU] at b0;have wF:=zq (aW gH.o HB.o);by_cases hrN:r < N
        .obtain⟨b,o,rfl,c0,-⟩:=(HR.o.below wF.o).at (i:=r) (by rw [HL.o];exact hrN) rfl;have HSr:=zq (HSh.o r hrN wr wF.o);have E1:aQ (FZ (aF rs) r= !pE (aF rs r)):=rfl;have X4:=zq (Y2.o r hrN);have X5:=zq (fun h:FZ (aF rs) r=ν=>iA (p:=FZ (aF rs)) HA.o h);rw [show(rs.getD r Γ).ss.length=(aF rs r).length from rfl] at c0;generalize (aF rs r).length=n,(rs.getD r Γ).cap=cr,(rs.getD r Γ).a=ar,pE (aF rs r)=D,FZ (aF rs) r=B at *;have hrI:(r:Int) < N:=oM;go_wp2_with fail
         refine kb HSr.o HB.o fun W HBy=>?_;clear HSr;cases D with
         | false=>
          have e1:=zq (X4.o E1.o);go_wp2;go_ret;exact⟨by rw [e1.o] <;> rfl,aW gH.o HBy.o⟩
         | true=>
          have e1:=zq (X5.o E1.o);go_wp2;go_roundw;case rel=>exact⟨r+1,by go_num,oM,e1.o,HBy.o⟩
          case measure=>simp only [ξ];omega
        .obtain rfl:N=r:=oM;replace X2:=zq (X2.o HA.o);clear HA HSh Y2;generalize G8 (aF rs) N=F,Ba (aF rs) N=P,EO (aF rs) N=K at *;go_wp2_with fail
         refine ka (HCr.o wr wF.o) fun W1 hb1=>?_;have b0:=aY hb1 b0;have eG:=wF.bS hb1;have lw:=rD.o.lt;clear hb1;cases K with
         | true=>
          have e1:=zq X2.o;go_wp2;go_ret;exact⟨by rw [e1.o] <;> rfl,eG.o⟩
         | false=>
          go_wp2_with fail
          refine ka (ir.o W1 eG.o) fun W2 hb2=>?_;have b0:=aY hb2 b0;have eU:=eG.bS hb2;clear hb2;cases P with
          | false=>
           have e1:=zq X2.o;go_wp2;go_ret;exact⟨by rw [e1.o] <;> rfl,eU.o⟩
          | true=>
           go_wp2_with fail
           refine kb (HRx.o W2 eU.o) eU.o fun W3 HB3=>?_;cases F with
           | false=>
            have e1:=zq X2.o;go_wp2;go_ret;exact⟨by rw [e1.o] <;> rfl,HB3.o⟩
           | true=>
            have e1:=zq X2.o;go_wp2;go_ret;exact⟨by rw [e1.o] <;> rfl,HB3.o⟩
def Bb(f:Nat->List Sd)(N:Nat):Bool:=decide (12<bY f N/\bY f N<=24\/40<bY f N\/40<N)
theorem RE{f:Nat->List Sd}(h:Bb f N=ν):N<=40/\(bY f N<=12\/24<bY f N/\bY f N<=40):=by
 have:=of_decide_eq_false h;omega
theorem ae{f:Nat->List Sd}:∀{N r:Nat},r<N->(f r).length<=bY f N
 |N+1,r,h=>by
  rw[bY]
  rcases Nat.lt_succ_iff_lt_or_eq.1 h with h|rfl
  .have:=ae (f:=f) h;omega
  .omega
theorem sW{f : Nat -> List Sd}: ∀ {N : Nat}, k <= N -> bY f k <= bY f N
  | 0, h => by obtain rfl : k = 0 := oM
               exact θ _
  | N + 1, h => by
    rcases fO N k with h2 | h2
    . obtain rfl : k = N + 1 := oM
      exact θ _
    . have:=sW (f:=f) h2; rw [bY]; omega
theorem vz(a N cap rs w)(hl:rs.length=N)(tY:bY (aF rs) N<=9223372036854775807)(hN:N<=9223372036854775807)(rr:GB w a rs):
 aE γ 14 #[bQ #[Θ a N cap],Υ Ξ 12] w (Rt (ω (Bb (aF rs) N)) w):=by
 have HR:=zq rr;have HL:=zq hl;have HM:aQ (∀ k,k<=N->bY (aF rs) k<=bY (aF rs) N):=fun k hk=>sW hk;have E:aQ (Bb (aF rs) N=decide (12 < bY (aF rs) N/\bY (aF rs) N<=24\/40 < bY (aF rs) N\/40 < N)):=rfl;clear hl rr;generalize Bb (aF rs) N=R at *;obtain⟨T,hT⟩:=nm (bY (aF rs) N);rw [hT] at tY HM E;have HT:=zq hT;clear hT;have gH:=zq (nA w (π #[Θ a N cap] 24));have rD:=zq (bE.new w #[Θ a N cap] 24);have b0:=rD.o.ce 0;go_enter func14,ntmps14;go_upto_region 1 with (fail)
 generalize w.alloc (π #[Θ a N cap] 24)=W0 at *;go_wp2;go_loopw [5,6] (fun t i wr=>∃ r:Nat,i=Υ Ξ r/\t=Υ Ξ (bY (aF rs) r:Nat)/\r<=N/\wr=W0) (fun _ i _=>N - (ξ i).toNat);case atStart=>exact⟨0,rfl,rfl,aP _,rfl⟩
 case round=>
  obtain⟨r,rfl,rfl,hr,rfl⟩:=hrel;by_cases hrN:r < N
  .obtain⟨b,o,rfl,c0,-⟩:=(HR.o.below gH.o).at (i:=r) (by rw [HL.o];exact hrN) rfl;rw [show(rs.getD r Γ).ss.length=(aF rs r).length from rfl] at c0;have E1:aQ (bY (aF rs) (r+1)=bY (aF rs) r+(aF rs r).length):=rfl;have h1:=HM.o (r+1) hrN;rw [E1.o] at h1;generalize (aF rs r).length=n,bY (aF rs) r=C at *;have hrI:(r:Int) < N:=oM;go_wp2;go_roundw;case rel=>exact⟨r+1,by go_num,by rw [E1.o] <;> go_num,oM,by first | rfl | trivial⟩
   case measure=>simp only [ξ];omega
  .obtain rfl:N=r:=oM;rw [HT.o];have hx:aQ (12 < T/\T<=24/\R=ι\/T<=12/\40 < N/\R=ι\/T<=12/\¬ 40 < N/\R=ν\/40 < T/\R=ι\/24 < T/\T<=40/\40 < N/\R=ι\/24 < T/\T<=40/\¬ 40 < N/\R=ν):=by
    show _\/_;rw [E.o];simp only [decide_eq_true_eq,decide_eq_false_iff_not];omega
   clear E;rcases hx.o with ⟨g1,g2,rfl⟩ | ⟨g1,g2,rfl⟩ | ⟨g1,g2,rfl⟩ | ⟨g1,rfl⟩ | ⟨g1,g2,g3,rfl⟩ | ⟨g1,g2,g3,rfl⟩;all_goals
    clear hx;go_wp2;go_ret;exact⟨by first | rfl | (congr 2;simp;omega),gH.o⟩
def UD(r n:Nat):List (Nat×Nat):=(cI n).map fun i=>(r,i)
def Dd(f:Nat->List Sd):Nat->List (Nat×Nat)
 |0=>[]
 |n+1=>Dd f n++UD n (f n).length
theorem WM(r n):UD r (n+1)=UD r n++[(r,n)]:=by unfold UD;rw[sB,dV];rfl
theorem TN(r n):(UD r n).length=n:=by simp[UD]
theorem FA(f:Nat->List Sd):∀n,(Dd f n).length=bY f n
 |0=>rfl
 |n+1=>by rw[Dd,aJ,FA f n,TN];rfl
def aE1(p q:Nat×Nat):Prop:=p.1<q.1\/p.1=q.1/\p.2<q.2
theorem Jb{f:Nat->List Sd}{p:Nat×Nat}:∀{n:Nat},p∈Dd f n->p.1<n/\p.2<(f p.1).length
 |n+1,h=>by
  rcases List.mem_append.1 h with h|h
  .have:=Jb h;exact⟨oM,this.2⟩
  .obtain⟨i,hi,rfl⟩:=List.mem_map.1 h
   exact⟨Fk _,List.mem_range.1 hi⟩
theorem Oh(f:Nat->List Sd):∀n,(Dd f n).Pairwise aE1
 |0=>Fm
 |n+1=>by
  refine List.pairwise_append.2 ⟨Oh f n,?_,fun a ha b hb=>?_⟩
  .unfold UD
   refine List.pairwise_map.2 (List.pairwise_lt_range.imp fun h=>.inr ⟨rfl,h⟩)
  .obtain⟨i,hi,rfl⟩:=List.mem_map.1 hb
   exact .inl (Jb ha).1
theorem aV1{f:Nat->List Sd}{n:Nat}(hk:k<i)(hi:i<bY f n):aE1 ((Dd f n).getD k Γ) ((Dd f n).getD i Γ):=by
 have hl:=FA f n;have:=List.pairwise_iff_getElem.1 (Oh f n) k i oM oM hk;rw[Ω,Ω,aS oM,aS oM];exact this
def bxC(f:Nat->List Sd)(p:Nat×Nat):List χ:=[Υ Ξ (DB ((f p.1).getD p.2 Γ).x (fR (f p.1) p.2).x),Υ Ξ (DB ((f p.1).getD p.2 Γ).y (fR (f p.1) p.2).y),Υ Ξ (DC ((f p.1).getD p.2 Γ).x (fR (f p.1) p.2).x),Υ Ξ (DC ((f p.1).getD p.2 Γ).y (fR (f p.1) p.2).y)]
def plC(p:Nat×Nat):List χ:=[Υ Ξ p.1,Υ Ξ p.2]
def bxs(f:Nat->List Sd)(l:List (Nat×Nat)):List χ:=l.flatMap (bxC f)
def pls(l:List (Nat×Nat)):List χ:=l.flatMap plC
theorem aE2(f:Nat->List Sd)(l m):bxs f (l++m)=bxs f l++bxs f m:=by simp[bxs]
theorem aE3(l m):pls (l++m)=pls l++pls m:=by simp[pls]
theorem TO{g:Nat×Nat->List χ}{z:Nat}(hz:∀p,(g p).length=z):∀(l:List (Nat×Nat))(i j:Nat),i<l.length->j<z->(l.flatMap g)[i*z+j]? =(g (l.getD i Γ))[j]?
 |[],i,_,h,_=>by simp at h
 |q::qs,0,j,_,hj=>by
  rw[gS,vO,bD,nQ (by rw[hz];exact hj)];rfl
 |q::qs,i+1,j,h,hj=>by
  rw[gS,fA (by rw[hz,Nat.succ_mul];omega),hz,show(i+1)*z+j-z=i*z+j by rw[Nat.succ_mul];omega]
  exact TO hz qs i j (by simpa using h) hj
def mtB(f:Nat->List Sd)(p q:Nat×Nat):Bool:=
 decide (DB ((f p.1).getD p.2 Γ).x (fR (f p.1) p.2).x<=DC ((f q.1).getD q.2 Γ).x (fR (f q.1) q.2).x)&&(decide (DB ((f q.1).getD q.2 Γ).x (fR (f q.1) q.2).x<=DC ((f p.1).getD p.2 Γ).x (fR (f p.1) p.2).x)&&
  (decide (DB ((f p.1).getD p.2 Γ).y (fR (f p.1) p.2).y<=DC ((f q.1).getD q.2 Γ).y (fR (f q.1) q.2).y)&&decide (DB ((f q.1).getD q.2 Γ).y (fR (f q.1) q.2).y<=DC ((f p.1).getD p.2 Γ).y (fR (f p.1) p.2).y)))
def nbI(r s:Nat)(i k n:Int):Bool:=decide (r=s)&&(decide (i-k=1)||decide (i-k=n-1))
theorem aE4{f:Nat->List Sd}(h:EO f N=ν)(hk:k<i)(hi:i<bY f N):
 nbI ((Dd f N).getD i Γ).1 ((Dd f N).getD k Γ).1 ((Dd f N).getD i Γ).2 ((Dd f N).getD k Γ).2 (f ((Dd f N).getD i Γ).1).length=ν->mtB f ((Dd f N).getD i Γ) ((Dd f N).getD k Γ)=ν:=by
 have hl:=FA f N;have hlt:=aV1 hk hi;have h1:=Jb (aN (xs:=Dd f N) (i:=i) oM Γ);have h2:=Jb (aN (xs:=Dd f N) (i:=k) oM Γ);generalize(Dd f N).getD i Γ=p at *;generalize(Dd f N).getD k Γ=q at *;intro hn;cases hm:mtB f p q with
 |false=>rfl
 |true=>
  have h4:Mf f q.1 q.2 p.1 p.2=ι:=by
   have ht:Me (f q.1) q.2 (f p.1) p.2=ι:=by
    unfold Me aD2;unfold mtB at hm;simp only[aI,decide_eq_true_eq]at hm|-;exact⟨hm.2.1,hm.1,hm.2.2.2,hm.2.2.1⟩
   unfold Mf;rw[ht,Bool.and_true];unfold vh;unfold nbI at hn;unfold aE1 at hlt;rw[bX];simp only[Bool.and_eq_false_iff,jA,decide_eq_false_iff_not]at hn|-;rcases hn with hn|⟨LB,hn2⟩
   .exact .inl fun e=>hn e.symm
   .by_cases e:q.1=p.1
    .right;rw[<-e]at h1 hn2;exact⟨oM,oM,oM⟩
    .exact .inl e
  have:=MH h2.1 h2.2 h1.1 (by unfold aE1 at hlt;omega) h1.2 h4;rw[h]at this;cases this
def pbL(f:Nat->List Sd)(r s:Nat):Bool:=!(decide (s=r)||decide (r=0))&&(I8 (f s) ((f r).getD 0 Γ).x ((f r).getD 0 Γ).y !=decide (s=0))
def pbR(f:Nat->List Sd)(N r:Nat):Bool:=(decide (0<rZ (f r) (f r).length) !=decide (r=0))||anyN (pbL f r) N
def WO(f:Nat->List Sd)(N:Nat):Bool:=!anyN (pbR f N) N
theorem aV2{f:Nat->List Sd}(h:Ba f N=ι):WO f N=ι:=by
 unfold Ba at h;simp only[aI,bX,decide_eq_false_iff_not]at h;obtain⟨h1,h2⟩:=h;have h2:=bJ.1 h2;unfold WO;rw[bJ.2 ?_]
 .rfl
 intro r hr;have h3:=h2 r hr;by_cases h0:r=0
 .subst h0;unfold pbR;rw[decide_eq_true (show 0<rZ (f 0) (f 0).length by omega),bJ.2]
  .rfl
  intro s _;unfold pbL;simp
 .rw[decide_eq_true (show 1<=r by omega),iO]at h3;unfold AQ at h3;rw[jA]at h3;have h4:=of_decide_eq_false h3.1;unfold pbR;rw[decide_eq_false (show¬0<rZ (f r) (f r).length by omega),decide_eq_false h0,bJ.2]
  .rfl
  intro s hs;have h5:=bJ.1 h3.2 s hs;unfold GE at h5;unfold pbL;rw[decide_eq_false h0,Bool.or_false];exact h5
theorem wa(a N cap rs w)(hl:rs.length=N)(hN:N<=1000)(hn:∀ r,(aF rs r).length<=1000)(hp:∀ r,r < N->0 < (aF rs r).length)(hC:∀ r,C8 (aF rs r))(rr:GB w a rs):
    aE γ 99 #[Θ a N cap] w (Rt (ω (WO (aF rs) N)) w):=by
  have HT:=zq (fun r (_:r < N) W (hW:Bw w W)=>aD5 (rs.getD r Γ).a (aF rs r).length (rs.getD r Γ).cap (aF rs r) W rfl (hn r) (hC r) ((rr.below hW).at (i:=r) oM rfl).choose_spec.choose_spec.2.2)
  have HI:=zq (fun r (_:r < N) x y W (hW:Bw w W)=>vn (rs.getD r Γ).a (aF rs r).length (rs.getD r Γ).cap (aF rs r) x y W rfl (hn r) (hC r) ((rr.below hW).at (i:=r) oM rfl).choose_spec.choose_spec.2.2)
  have HR:=zq rr
  have HL:=zq hl
  have HP:=zq hp
  have X2:aQ (∀ r,r < N->pbR (aF rs) N r=ι->WO (aF rs) N=ν):=fun r h2 h=>by unfold WO;rw [eF.2 ⟨r,h2,h⟩];rfl
  have X3:aQ (anyN (pbR (aF rs) N) N=ν->WO (aF rs) N=ι):=fun h=>by unfold WO;rw [h];rfl
  have HCo:=zq (fun s W=>mX s W)
  clear hl rr hp hn hC
  generalize WO (aF rs) N=R at *
  refine eE func99 rfl ?_
  simp only [ntmps99,bI,aC,bB,cL,dF,bG,bH,cE,bN,cM,bV]
  go_wp2
  go_loopw [9] (fun i wr=>∃ r:Nat,i=Υ Ξ r/\r<=N/\aQ (anyN (pbR (aF rs) N) r=ν)/\aQ (Bw w wr)) (fun i _=>N - (ξ i).toNat)
  case atStart=>exact⟨0,rfl,aP _,rfl,μ _ w⟩
  case round=>
    obtain⟨r,rfl,hr,HA,HD⟩:=hrel
    rename η=>wr
    by_cases hrN:r < N
    . obtain⟨b,o,rfl,c0,RD⟩:=(HR.o.below HD.o).at (i:=r) (by rw [HL.o];exact hrN) rfl
      have Ka:=zq (HT.o r hrN wr HD.o)
      have hpr:0 < (rs.getD r Γ).ss.length:=HP.o r hrN
      have hpn:=HP.o r hrN
      have GD:=zq RD
      have E:aQ (pbR (aF rs) N r=((decide (0 < rZ (aF rs r) (aF rs r).length) !=decide (r=0)) || anyN (pbL (aF rs) r) N)):=rfl
      have X2r:=zq (X2.o r hrN)
      have X4:=zq (fun h:pbR (aF rs) N r=ν=>iA HA.o h)
      rw [show(rs.getD r Γ).ss.length=(aF rs r).length from rfl] at c0
      clear RD
      generalize (aF rs r).length=n at *
      generalize (rs.getD r Γ).a=ar at *
      generalize (rs.getD r Γ).cap=cr at *
      generalize rZ (aF rs r) n=T at *
      have hrI:(r:Int) < N:=oM
      have hz:((r:Int)==0)=decide (r=0):=Db oM
      go_wp2_with fail
      refine ka Ka.o fun W2 hd=>?_
      have Pu:=HD.bS hd
      have GD:=zq (GD.o.below hd)
      clear hd Ka c0
      obtain⟨Z0,hZ0⟩:=nm (decide (r=0))
      obtain⟨T0,hT0⟩:=nm (decide (0 < T))
      have hT1:decide (T > 0)=T0:=hT0
      rw [hZ0] at hz
      rw [hZ0,hT0] at E
      by_cases h1:(T0 !=Z0)=ι
      . have e1:=zq (X2r.o (by rw [E.o,h1];rfl))
        clear E hZ0 hT0
        cases T0 <;> cases Z0 <;> first | (exfalso;revert h1;decide) | skip
        all_goals
          clear h1
          go_wp2
          exact sC (iH Qk _ _ _) rfl ⟨by rw [e1.o] <;> rfl,Pu.o⟩
      . have h1:(T0 !=Z0)=ν:=by simpa using h1
        rw [h1,nZ] at E
        obtain rfl:T0=Z0:=by cases T0 <;> cases Z0 <;> first | rfl | (exfalso;revert h1;decide)
        clear h1
        obtain⟨ab,ao,rfl,-⟩:=GD.o 0 hpr
        have EZ:=zq hZ0
        go_wp2
        go_loopw [22] (fun i ws=>∃ s:Nat,i=Υ Ξ s/\s<=N/\aQ (anyN (pbL (aF rs) r) s=ν)/\aQ (Bw w ws)/\aQ (Bw W2 ws)) (fun i _=>N - (ξ i).toNat)
        case atStart=>exact⟨0,rfl,aP _,rfl,Pu.o,μ _ _⟩
        case round=>
          obtain⟨s,rfl,hs,PA,UC,HDz⟩:=hrel
          rename η=>ws
          by_cases hsN:s < N
          . obtain⟨b',o',e1,k0, -⟩:=(HR.o.below UC.o).at (i:=s) (by rw [HL.o];exact hsN) rfl
            injection e1 with e1;injection e1 with e1 e2;subst e1 e2
            rw [show(rs.getD s Γ).ss.length=(aF rs s).length from rfl] at k0
            have HIs:=zq (fun W hW=>HI.o s hsN ((aF rs r).getD 0 Γ).x ((aF rs r).getD 0 Γ).y W hW)
            have Z3:=zq (fun W=>HCo.o ((aF rs r).getD 0 Γ) W)
            have E2:aQ (pbL (aF rs) r s=(!(decide (s=r) || decide (r=0)) && (I8 (aF rs s) ((aF rs r).getD 0 Γ).x ((aF rs r).getD 0 Γ).y !=decide (s=0)))):=rfl
            rw [EZ.o] at E2
            have X5:=zq (fun h:pbL (aF rs) r s=ι=>X2r.o (by rw [E.o];exact eF.2 ⟨s,hsN,h⟩))
            have X6:=zq (fun h:pbL (aF rs) r s=ν=>iA PA.o h)
            have hsI:(s:Int) < N:=oM
            generalize pbL (aF rs) r s=B at *
            generalize I8 (aF rs s) ((aF rs r).getD 0 Γ).x ((aF rs r).getD 0 Γ).y=I at *
            have hv:(rs.getD r Γ).ss.getD 0 Γ=(aF rs r).getD 0 Γ:=rfl
            generalize (aF rs s).length=m at *
            generalize (rs.getD s Γ).a=as' at *
            generalize (rs.getD s Γ).cap=cs at *
            have hq:((s:Int)==(r:Int))=decide (s=r):=Db oM
            have uT:((s:Int)==0)=decide (s=0):=Db oM
            obtain⟨S0,hS0⟩:=nm (decide (s=r))
            obtain⟨Z,hZ⟩:=nm (decide (s=0))
            rw [hS0] at hq E2
            rw [hZ] at uT E2
            by_cases hsk:(S0 || T0)=ι
            . have e1:=zq (X6.o (by rw [E2.o,hsk];rfl))
              clear E2 X5 X6 hS0 hZ
              cases S0
              . have hZt:T0=ι:=by simpa using hsk
                subst hZt
                clear hsk
                go_wp2
                go_roundw
                case rel=>exact⟨s+1,by go_num,oM,e1.o,UC.o,HDz.o⟩
                case measure=>simp only [ξ];omega
              . clear hsk
                go_wp2
                go_roundw
                case rel=>exact⟨s+1,by go_num,oM,e1.o,UC.o,HDz.o⟩
                case measure=>simp only [ξ];omega
            . have hsk:(S0 || T0)=ν:=by simpa using hsk
              obtain⟨rfl,rfl⟩:S0=ν/\T0=ν:=by simpa using hsk
              obtain⟨ab',ao',e1,d0,d1,d2,d3,d4,d5,d6⟩:=(GD.o.below HDz.o).at (i:=0) hpr hv
              injection e1 with e1;injection e1 with e1 e2;subst e1 e2
              clear hv hpr hsk hS0 hZ
              generalize (aF rs r).getD 0 Γ=c at *
              simp only [vO,jN] at d0 d1 d2 d3 d4 d5 d6
              obtain⟨x,y,rise,run,gable,plate,over⟩:=c
              unfold Sd.v Sd.cells at Z3
              simp only [] at *
              go_wp2_with fail
              refine ka (Z3.o _) fun W3 hb3=>?_
              have HB3:=UC.bS hb3
              have HB4:=HDz.bS hb3
              have HIw:=zq (HIs.o _ HB3.o)
              clear hb3
              go_wp2_with fail
              refine ka HIw.o fun W4 hb3=>?_
              have wG:=HB3.bS hb3
              have xU:=HB4.bS hb3
              clear hb3 HB3 HB4
              cases I <;> cases Z
              case' true.false=>have e1:=zq (X5.o E2.o)
              case' false.true=>have e1:=zq (X5.o E2.o)
              case' true.true=>have e1:=zq (X6.o E2.o)
              case' false.false=>have e1:=zq (X6.o E2.o)
              all_goals
                clear E2 X5 X6
                go_wp2
                first
                  | (go_roundw
                     case rel=>exact⟨s+1,by go_num,oM,e1.o,wG.o,xU.o⟩
                     case measure=>simp only [ξ];omega)
                  | exact sC (iH Qk _ _ _) rfl ⟨by rw [e1.o] <;> rfl,wG.o⟩
                  | fail
          . obtain rfl:N=s:=oM
            have e1:=zq (X4.o (by rw [E.o];exact PA.o))
            go_wp2
            go_roundw
            case rel=>exact⟨r+1,by go_num,oM,e1.o,UC.o⟩
            case measure=>simp only [ξ];omega
    . obtain rfl:N=r:=oM
      have e1:=zq (X3.o HA.o)
      go_wp2
      exact sC (iH Qk _ _ _) rfl ⟨by rw [e1.o] <;> rfl,HD.o⟩
abbrev mkD(D:Nat):Deferred:={target:=.collected D,args:=#[]}
def Mk(B E:Nat)(Ds:List Nat)(W:η):Prop:=Ds.Nodup/\∀D,D∈Ds->B<=D/\D<E/\W.heap[D]? =ζ (.deferred (ζ []))
theorem Mk.nil(B E W):Mk B E [] W:=⟨List.nodup_nil,fun _ h=>nomatch h⟩
theorem Mk.grow{E':Nat}(h:Mk B E Ds W)(k:E<=E'):Mk B E' Ds W:=⟨h.1,fun D hD=>⟨(h.2 D hD).1,cN (h.2 D hD).2.1 k,(h.2 D hD).2.2⟩⟩
theorem Mk.top(h:Mk B E Ds W):Mk B W.heap.size Ds W:=⟨h.1,fun D hD=>⟨(h.2 D hD).1,(Array.getElem?_eq_some_iff.1 (h.2 D hD).2.2).1,(h.2 D hD).2.2⟩⟩
theorem Mk.below(h:Mk B E Ds W)(hb:Bw W W'):Mk B E Ds W':=
 ⟨h.1,fun D hD=>⟨(h.2 D hD).1,(h.2 D hD).2.1,(hb.block D (Array.getElem?_eq_some_iff.1 (h.2 D hD).2.2).1).trans (h.2 D hD).2.2⟩⟩
theorem Mk.setCell{b:Nat}(h:Mk B E Ds W)(hb:bE W b cs T)(o v):Mk B E Ds (W.setCell ⟨b,o,δ⟩ v):=
 ⟨h.1,fun D hD=>⟨(h.2 D hD).1,(h.2 D hD).2.1,(heap_setCell_other W ⟨b,o,δ⟩ D v (fun e=>by
  have h1:=(h.2 D hD).2.2
  have h2:W.heap[b]? =ζ (π cs T (0,0)):=hb
  rw[show D=b from e,h2]at h1
  cases h1)).trans (h.2 D hD).2.2⟩⟩
theorem Mk.cons(h:Mk B E Ds W)(hB:B<=E)(hD:E<=D)(hW:W.heap[D]? =ζ (.deferred (ζ []))):Mk B W.heap.size (D::Ds) W:=
 ⟨List.nodup_cons.2 ⟨fun hm=>absurd (h.2 D hm).2.1 oM,h.1⟩,fun X hX=>by
  rcases List.mem_cons.1 hX with rfl|hX
  .exact⟨aA hB hD,(Array.getElem?_eq_some_iff.1 hW).1,hW⟩
  .exact h.top.2 X hX⟩
theorem Mk.from:zM E (fun(_:β)W=>Mk B E Ds W):=fun _ W W' row hs hg hr=>
 ⟨hs.1,fun D hD=>⟨(hs.2 D hD).1,(hs.2 D hD).2.1,(hg.block D (Array.getElem?_eq_some_iff.1 (hs.2 D hD).2.2).1 (fun e=>absurd (hr D e.symm).1 (by have:=(hs.2 D hD).2.1;omega))).trans (hs.2 D hD).2.2⟩⟩
theorem RJ{n:Nat}{tmps:Array χ}{R:Fg->η->Prop}{v:χ}{Pp:η->Prop}(hP:∀W D,B<=D->Pp W->W.heap[D]? =ζ (.deferred (ζ []))->Pp (W.putObj D (.deferred δ)))(an3:∀W,Pp W->(gP fn tmps).run P W=.ok v W/\R (σ v) W):∀(Ds:List Nat)(W:η),Mk B E Ds W->Pp W->LeavesInM F n P fn tmps R (Ds.map mkD) .returning W
 |[],W,_,h=>⟨v,(an3 W h).1,(an3 W h).2⟩
 |D::Ds,W,hm,h=>by
  have hD:=hm.2 D bO
  have hn:=List.nodup_cons.1 hm.1
  have hm':Mk B E Ds (W.putObj D (.deferred δ)):=⟨hn.2,fun X hX=>by
   have hX':=hm.2 X (cC _ hX)
   have hne:X≠D:=fun e=>hn.1 (e▸hX)
   exact⟨hX'.1,hX'.2.1,(World.putObj_heap_other (by first |exact hne|exact hne.symm)).trans hX'.2.2⟩⟩
  exact⟨sP,.inl ⟨D,_,rfl,iD hD.2.2,RJ hP an3 Ds _ hm' (hP W D hD.1 h hD.2.2)⟩⟩
theorem af{n:Nat}{R:Fg->η->Prop}{a:iS}{v:χ}(hd:a.defers=Ds.map mkD)(hm:Mk B E Ds w)(Pp:η->Prop)(h:Pp w)(hP:∀W D,B<=D->Pp W->W.heap[D]? =ζ (.deferred (ζ []))->Pp (W.putObj D (.deferred δ)))(an3:∀W,Pp W->(gP fn a.tmps).run P W=.ok v W/\R (σ v) W):bodyPostM F n P fn R .ret a w:=by
 show LeavesInM _ _ _ _ _ _ _ _ _;rw[hd];exact RJ hP an3 Ds w hm h
end
end Go.Proofs.YtncclggcfgnhpaaGreatDoor
