import Derived.Test.YtncclggcfgnhpaaGreatDoorZ0
namespace Go.Proofs.YtncclggcfgnhpaaGreatDoor
set_option maxRecDepth 100000
set_option maxHeartbeats 8000000
set_option linter.all false
open Go.Proofs.Tryz
open _root_.Array renaming append_empty->AA
open _root_.Bool renaming true->ι,false->ν,and_eq_true->aI,not_eq_true'->bX
open _root_.Go renaming World->η,Value->χ,undef->ψ,Calls->aE,Addr->bW,Program->cQ,TypeId->cS,bodyPost_ret->cU,heap_setCell_other->dG,below_drewN->dO,wpAnyH_ready->eM,Oper->eZ,results->gP,Act->iS,info_parts->jJ,Operand->mC,callFunc->nU,grownBy_putObj'->pX,Exit->sG,FuncId->vP,wpList->Dk,Ending->Fg,Fence->Jy
open Go.AllReadyH renaming cons->cP,nil->dH
open Go.ByteArray renaming toList_eq->dM
open Go.Ending renaming returned->σ
open Go.Instr renaming lookup->pT,index->M4
open Go.IntKind renaming i64->Ξ
open Go.IntWalk renaming i64_in->aM
open Go.Lib renaming decDigits->bL,itoa->bR,hasPrefix->yI
open Go.Obj renaming cells->π
open Go.Oper renaming semAt_some->eQ
open Go.Proofs renaming enters_of->iC
open Go.Proofs.Tryz renaming prog->γ,ntmps136->Ui,func136->Ya
open Go.Region renaming Mode->gD
open Go.RowKit renaming intOf->ξ,Hid->aQ
open Go.RowKit.Below renaming refl->μ
open Go.Sem renaming run->fD
open Go.Value renaming string->Δ,slice->Θ,int->Υ,bool->ω,pointer->aB,agg->bQ,tuple->bT,oneCell'->iP,ownBlock->iQ
open Go.World renaming block_lt_of_cell?->aD,size_alloc->aL,putObj_heap_other->cZ
open Go.World.ownsRow renaming cellAt->dN
open _root_.Inhabited renaming default->Γ
open _root_.Int renaming natAbs_natCast->dX,tmod_eq_emod_of_nonneg->kO,add_zero->mP,mul_nonneg->qI,natAbs_mul->Cw,mul_le_mul->Cy,natAbs_neg->GK,mul_ne_zero->Pi
open _root_.List renaming getD_eq_getElem?_getD->Ω,length_map->υ,length_append->aJ,getElem?_eq_getElem->aS,getElem?_cons_zero->aU,getElem?_toArray->bC,take_succ_eq_append_getElem->bM,getElem?_cons_succ->cO,mem_singleton->dE,getD_cons_succ->jS
open _root_.Nat renaming le_refl->θ,le_trans->aA,mod_eq_of_lt->aT,zero_le->aP,mod_lt->aV,zero_add->bD,le_of_lt->fM,mod_self->mY,lt_of_le_of_lt->kE
open _root_.Option renaming none->δ,some->ζ
open _root_.Option.some renaming injEq->vF
open _root_.Rat renaming le_of_lt->gZ,intCast_mul->rL,num_intCast->vK,divInt->D0,den_intCast->Fj,divInt_eq_div->LZ
variable{p c:Prop}{k cH e size cap B i N j G m2 m3 m4 fuel:Nat}{l r s t:List UInt8}{a:iS}{row:Option Nat}{w W w' W' w0 A:η}{g:mC}{cs args lb:Array χ}{xs:List χ}{P:cQ}{cF:Array eZ}{rest:List eZ}{f:vP}{T ty:cS}{fn:Func}{md:gD}{ps:Array Tmp}{X Y D:Int}{z:Rat}{xv yv:χ}{oi:Oper}{jV:Array Bool}{at':List (List UInt8)}
section
open Go Go.RowKit
abbrev bv(b:UInt8):χ:=Υ .u8 (b.toNat:Int)
end
section
open Go Go.RowKit Go.Shelf
section
attribute[local go_sem] eQ
theorem bE.own{b:Nat}(h:bE W b cs T)(hg:W.grownBy W' row)(hr:∀r,row=ζ r->∃o:Obj,W.heap[r]? =ζ o/\o.isCells=ν):bE W' b cs T:=by
 refine h.grown hg ?_;intro e;obtain⟨_,ho,hc⟩:=hr b e.symm;have h':W.heap[b]? =ζ (π cs T (0,0)):=h;rw[h']at ho;cases ho;simp[Obj.isCells]at hc
theorem mE{n:Nat}{v:χ}(h:W.ownsRow cH e size v n xs)(hg:W.grownBy W' row)(hr:∀r,row=ζ r->∃o:Obj,W.heap[r]? =ζ o/\o.isCells=ν):W'.ownsRow cH e size v n xs:=by
 refine h.kept hg ?_;rcases h.2 with⟨rfl,_⟩|⟨g,cap,pZ,rfl,hb,hh,_⟩
 .exact .inl rfl
 .right;intro e;obtain⟨o,ho,hc⟩:=hr g e.symm;rw[hh]at ho;cases ho;simp[Obj.isCells]at hc
theorem gC(h:Bw W W'):KeepsOthers W W':=
 ⟨h.size,fun k o hk _=>(h.block k (Array.getElem?_eq_some_iff.1 hk).1).trans hk⟩
theorem oG{p:Tmp}(h:fn.results= #[.cell p ty])(tmps w g v)(hp:tmps.getD p ψ=aB (ζ ⟨g,0,δ⟩))(hc:w.cell? ⟨g,0,δ⟩=ζ v)(ha:(isAgg ty).run P w=.ok ν w):
 (gP fn tmps).run P w=.ok v w:=by
 have S7:tmps[p]?.getD ψ=aB (ζ ⟨g,0,δ⟩):=by simpa using hp
 simp[gP,h,go_sem,S7,hc,ha]
theorem bE.putObj{b:Nat}(h:bE W b cs T){l:Nat}{o:Obj}(o')(hl:W.heap[l]? =ζ o)(ho:o.isCells=ν):bE (W.putObj l o') b cs T:=
 h.own (pX W l o') (fun r e=>by cases e;exact⟨o,hl,ho⟩)
def eK(ks:Nat->Prop)(W W':η):Prop:=∀k,ks k->W'.heap[k]? =W.heap[k]?
theorem eK.refl(ks:Nat->Prop)(W):eK ks W W:=fun _ _=>rfl
theorem eK.trans{ks:Nat->Prop}{B C:η}(h:eK ks A B)(k:eK ks B C):eK ks A C:=fun i hi=>(k i hi).trans (h i hi)
theorem eK.cell{ks:Nat->Prop}{B:η}(h:eK ks A B){p:bW}(hp:ks p.block):B.cell? p=A.cell? p:=World.cell?_of_block (h p.block hp)
theorem eK.putObj{ks:Nat->Prop}(hk:∀k,ks k->k<w.heap.size)(W l o o')(hl:w.heap.size<=l)(_:W.heap[l]? =ζ o)(_:o.isCells=ν)(_:o.isWalk=ν):eK ks W (W.putObj l o'):=
 fun k h=>cZ (by have:=hk k h;omega)
theorem eK.below{ks:Nat->Prop}{B:η}{n:Nat}(h:Below n A B)(hk:∀k,ks k->k<n):eK ks A B:=fun k h'=>h.block k (hk k h')
theorem eK.setCell{ks:Nat->Prop}{a:bW}(hk:∀k,ks k->k≠a.block)(v):eK ks W (W.setCell a v):=fun k h=>dG W a k v (hk k h)
def sQ(Bs:Nat)(a:Option bW)(len:Nat)(k:Nat):Prop:=k=Bs\/(0<len/\∃p,a=ζ p/\k=p.block)
end
end
section
open Go Go.RowKit Go.Shelf Go.Lib
section
attribute[local go_sem] eQ
def Qy(w:η)(a:Option bW)(vs:List χ):Prop:=
 ∀i,i<vs.length->∃b off,a=ζ ⟨b,off,δ⟩/\w.cell? ⟨b,off+i,δ⟩=ζ (vs.getD i ψ)
theorem Qy.below{a:Option bW}{vs:List χ}(h:Qy w a vs)(hb:Bw w w'):Qy w' a vs:=by
 intro i hi;obtain⟨b,off,rfl,hc⟩:=h i hi;have hlt:=aD w ⟨b,off+i,δ⟩ hc;exact⟨b,off,rfl,(hb.cell (p:=⟨b,off+i,δ⟩) hlt).trans hc⟩
def dQ(ls:List (List UInt8)):List χ:=ls.map fun l=>Δ (bs l)
theorem uQ(ls):(dQ ls).length=ls.length:=υ ..
theorem Fu(ls)(h:k<ls.length):(dQ ls).getD k ψ=Δ (bs (ls.getD k [])):=by
 simp[dQ,Ω,aS h]
theorem qB{p q:Tmp}{tz:cS}(h:fn.results= #[.cell p ty,.cell q tz])(tmps w g1 g2 v1 v2)(hp:tmps.getD p ψ=aB (ζ ⟨g1,0,δ⟩))(hq:tmps.getD q ψ=aB (ζ ⟨g2,0,δ⟩))(h1:w.cell? ⟨g1,0,δ⟩=ζ v1)(h2:w.cell? ⟨g2,0,δ⟩=ζ v2)(ha:∀w,(isAgg ty).run P w=.ok ν w)(hb:∀w,(isAgg tz).run P w=.ok ν w):
 (gP fn tmps).run P w=.ok (bT #[v1,v2]) w:=by
 have S7:tmps[p]?.getD ψ=aB (ζ ⟨g1,0,δ⟩):=by simpa using hp
 have hq':tmps[q]?.getD ψ=aB (ζ ⟨g2,0,δ⟩):=by simpa using hq
 simp[gP,h,go_sem,S7,hq',h1,h2,ha,hb]
theorem lQ{l:Nat}{o o':Obj}(hB:B<=l)(hl:W.heap[l]? =ζ o):Below B W (W.putObj l o'):=
 (μ B W).grown (pX W l o') (aA hB (fM (Array.getElem?_eq_some_iff.1 hl).1)) (fun k e=>by cases e;exact hB)
end
end
section
open Go Go.Lib
structure Fr where
 up:Bool
 co:Int
 dir:Int
 sp:List UInt8
 st:List UInt8
instance:Inhabited Fr:=⟨⟨ν,0,0,[],[]⟩⟩
abbrev Fr.cells(f:Fr):Array χ:=#[ω f.up,Υ Ξ f.co,Υ Ξ f.dir,Δ (bs f.sp),Δ (bs f.st)]
abbrev Fr.v(f:Fr):χ:=bQ f.cells
structure FQ where
 up:Bool
 co:Int
 dir:Int
 v:Rat
 t:Rat
def FQ.fr(q:FQ):Fr:=⟨q.up,q.co,q.dir,aO q.v,aO q.t⟩
structure FQ.Good(q:FQ):Prop where
 co0:0<=q.co
 co1:q.co<=65536
 dir:q.dir=1\/q.dir= -1
 v:∃n d:Nat,n<=48/\1<=d/\d<=48/\q.v*(d:Int)=(n:Int)
 t:∃k:Nat,k<=65536/\q.t=(k:Int)
def FQ.pos(q:FQ)(z:Rat):Rat:=if z<=q.t then(q.co:Rat)else(q.co:Rat)+(q.dir:Rat)*q.v*(z-q.t)
def FQ.vel(q:FQ):Rat:=(q.dir:Rat)*q.v
section
variable{a b c d k:Nat}{x y:Rat}
theorem HB.mk{n:Int}{m:Nat}(hd:m≠0)(h1:n.natAbs<10^a)(h2:m<10^b):HB a b (mkRat n m):=
 ⟨kE (BG n m hd).1 h1,kE (BG n m hd).2 h2⟩
theorem HB.dens(h1:HB a b x)(h2:HB c d y):x.den*y.den<10^(b+d):=by rw[Nat.pow_add];exact Nat.mul_lt_mul'' h1.2 h2.2
theorem HB.add(h1:HB a b x)(h2:HB c d y)(e1:a+d<=k)(e2:c+b<=k):HB (k+1) (b+d) (x+y):=by
 rw[<-JO];exact HB.mk (AE x y) (Nf (zO k (fZ h1.1 h2.dz) e1) (zO k (fZ h2.1 h1.dz) e2)) (h1.dens h2)
theorem HB.sub(h1:HB a b x)(h2:HB c d y)(e1:a+d<=k)(e2:c+b<=k):HB (k+1) (b+d) (x-y):=by
 rw[<-JP];exact HB.mk (AE x y) (Ng (zO k (fZ h1.1 h2.dz) e1) (zO k (fZ h2.1 h1.dz) e2)) (h1.dens h2)
theorem HB.mul(h1:HB a b x)(h2:HB c d y):HB (a+c) (b+d) (x*y):=by
 rw[<-JQ];exact HB.mk (AE x y) (fZ h1.1 h2.1) (h1.dens h2)
end
theorem HB.zero:HB 1 1 (0:Rat):=⟨dD,dD⟩
section
variable{q:FQ}(h:q.Good)
include h
theorem FQ.Good.hco:HB 5 1 (q.co:Rat):=HB.int (by have:=h.co0;have:=h.co1;omega)
theorem FQ.Good.hdir:HB 1 1 (q.dir:Rat):=HB.int (by have:=h.dir;omega)
theorem FQ.Good.hv:HB 2 2 q.v:=by
 obtain⟨n,d,h1,h2,h3,h4⟩:=h.v;exact HB.of h4 oM oM oM
theorem FQ.Good.ht:HB 5 1 q.t:=by
 obtain⟨k,h1,h2⟩:=h.t;rw[h2];exact HB.int oM
theorem FQ.Good.hvel:HB 2 2 q.vel:=by
 have:=h.hv;unfold FQ.vel;rcases h.dir with e|e
 .rw[e,show((1:Int):Rat)=1 from rfl,Rat.one_mul];exact this
 .rw[e,show((-1:Int):Rat)= -1 from rfl,Rat.neg_mul,Rat.one_mul];exact⟨by show(-q.v.num).natAbs<_;rw[GK];exact this.1,this.2⟩
end
def DO(z:Rat):Prop:=z.num.natAbs<=452984832/\z.den<=4608
theorem DO.hb(h:DO z):HB 9 4 z:=⟨kE h.1 dD,kE h.2 dD⟩
theorem DO.of{q:Rat}{N:Int}(h:q*D=N)(h0:D≠0)(h1:N.natAbs<=452984832)(h2:D.natAbs<=4608):DO q:=by
 have e:q=D0 N D:=by
  rw[LZ,<-h,Rat.mul_div_cancel (by exact_mod_cast h0)]
 rw[<-IB]at e;obtain⟨l1,l2⟩:=BG (JS N D) D.natAbs oM;rw[<-e]at l1 l2;exact⟨aA l1 (by unfold JS;split <;>omega),aA l2 h2⟩
theorem ad8(z:Rat):z*(z.den:Int)=(z.num:Int):=by
 have:=Rat.num_divInt_den z;rw[LZ]at this;have hd:((z.den:Int):Rat)≠0:=by exact_mod_cast z.den_nz
 have e:=Rat.div_mul_cancel (a:=((z.num:Int):Rat)) hd;rwa[this]at e
theorem FQ.Good.pos_hb{q:FQ}(h:q.Good){z:Rat}(hz:DO z):HB 11 6 (q.pos z):=by
 unfold FQ.pos;split
 .exact h.hco.mono dD dD
 .obtain⟨n,d,h1,h2,h3,h4⟩:=h.v;obtain⟨k,h5,h6⟩:=h.t;have h7:=ad8 z;obtain⟨z1,z2⟩:=hz;have Ak:=z.den_nz;have qp:=h.co0;have hc1:=h.co1;have hd:=h.dir;rw[h6];generalize q.dir=s,q.co=c,z.den=zd,z.num=zn at *;refine HB.of (N:=c*(d*zd)+s*(n*(zn-k*zd))) (D:=d*zd) ?_ ?_ ?_ ?_
  .have e1:((c*(d*zd)+s*(n*(zn-k*zd)):Int):Rat)=(c:Rat)*(((d:Int):Rat)*((zd:Int):Rat))+(s:Rat)*(((n:Int):Rat)*((zn:Rat)-((k:Int):Rat)*((zd:Int):Rat))):=by
    simp only[Rat.intCast_add,rL,Rat.intCast_sub]
   have e2:(((d:Int)*(zd:Int):Int):Rat)=((d:Int):Rat)*((zd:Int):Rat):=rL _ _;rw[e1,e2,<-h4,<-h7];grind
  .exact Pi oM oM
  .have b1:(d:Int)*zd<=48*4608:=Cy oM oM oM oM;have b0:(0:Int)<=(d:Int)*zd:=qI oM oM;have b2:c*((d:Int)*zd)<=65536*(48*4608):=Cy hc1 b1 b0 oM;have b3:0<=c*((d:Int)*zd):=qI qp b0;have b4:(k:Int)*zd<=65536*4608:=Cy oM oM oM oM;have b5:(0:Int)<=(k:Int)*zd:=qI oM oM;have b6:((n:Int)*(zn-k*zd)).natAbs<=48*754974720:=by
    rw[Cw,dX];exact Nat.mul_le_mul h1 oM
   have b7:(s*((n:Int)*(zn-k*zd))).natAbs<=48*754974720:=by
    rw[Cw];have:s.natAbs=1:=oM;rw[this,Nat.one_mul];exact b6
   generalize s*((n:Int)*(zn-k*zd))=B,c*((d:Int)*zd)=A at *;omega
  .have b1:(d:Int)*zd<=48*4608:=Cy oM oM oM oM;have b0:(0:Int)<=(d:Int)*zd:=qI oM oM;generalize(d:Int)*zd=A at *;omega
end
section
open Go
def FQ.low(q:FQ)(z:Rat):Rat:=if z<=q.t then 0 else q.vel
def FQ.high(q:FQ)(z:Rat):Rat:=if z<q.t then 0 else q.vel
def kK(f g:FQ)(z:Rat):Prop:=f.pos z=g.pos z/\(f.low z≠g.low z\/f.high z≠g.high z)
theorem ad9{q:FQ}(h:z<=q.t):q.pos z=q.co:=ip h
theorem JX{q:FQ}(h:q.t<z):q.pos z=q.co+q.vel*(z-q.t):=iN (Rat.not_le.2 h)
def uR(f g:FQ):Rat:=(g.co:Rat)-(f.co:Rat)
def jI(f g:FQ):List Rat:=
 [f.t,g.t]++(if f.vel≠0 then[f.t+uR f g/f.vel]else[])++(if g.vel≠0 then[g.t-uR f g/g.vel]else[])++
  (if f.vel≠g.vel then[(uR f g+(f.vel*f.t-g.vel*g.t))/(f.vel-g.vel)]else[])
theorem JY{f g:FQ}(h:kK f g z):z∈jI f g:=by
 obtain⟨h1,h2⟩:=h;unfold jI;simp only[List.mem_append,List.mem_cons,List.not_mem_nil,or_false];by_cases e1:z=f.t
 .exact .inl (.inl (.inl (.inl e1)))
 by_cases e2:z=g.t
 .exact .inl (.inl (.inl (.inr e2)))
 rcases(by grind:z<f.t\/f.t<z)with a|a<;>rcases(by grind:z<g.t\/g.t<z)with b|b
 .have l1:f.low z=0:=ip (gZ a);have l2:g.low z=0:=ip (gZ b);have u1:f.high z=0:=ip a;have u2:g.high z=0:=ip b;rw[l1,l2,u1,u2]at h2;grind
 .rw[ad9 (gZ a),JX b]at h1;have hw:g.vel≠0:=by
   intro e;have l1:f.low z=0:=ip (gZ a);have l2:g.low z=g.vel:=iN (Rat.not_le.2 b);have u1:f.high z=0:=ip a;have u2:g.high z=g.vel:=iN (by grind);grind
  refine .inl (.inr ?_);rw[ip hw,dE];unfold uR;grind
 .rw[ad9 (gZ b),JX a]at h1;have hw:f.vel≠0:=by
   intro e;have l1:g.low z=0:=ip (gZ b);have l2:f.low z=f.vel:=iN (Rat.not_le.2 a);have u1:g.high z=0:=ip b;have u2:f.high z=f.vel:=iN (by grind);grind
  refine .inl (.inl (.inr ?_));rw[ip hw,dE];unfold uR;grind
 .rw[JX a,JX b]at h1;have hw:f.vel≠g.vel:=by
   intro e;have l1:g.low z=g.vel:=iN (Rat.not_le.2 b);have l2:f.low z=f.vel:=iN (Rat.not_le.2 a);have u1:g.high z=g.vel:=iN (by grind);have u2:f.high z=f.vel:=iN (by grind);grind
  refine .inr ?_;rw[ip hw,dE];unfold uR;grind
end
section
open Go Go.RowKit Go.Lib
section
variable{a b c d:Nat}(x y:Rat)(w:η)(hE:mV w)
include hE
theorem Y7(h:Cr 16 a b c d x y):aE γ 161 #[Δ (bs (aO x)),Δ (bs (aO y))] w fun e w'=>e=σ (Δ (bs (aO (x+y))))/\Bw w w':=by
 have H:=zq (ay4 x y w hE h);clear hE h;go_enter func161,ntmps161;go_wp2_with fail
 refine ka H.o fun W1 hb1=>?_;go_wp2;go_ret;exact⟨rfl,hb1⟩
theorem Nj(h:Cr 16 a b c d x y):aE γ 164 #[Δ (bs (aO x)),Δ (bs (aO y))] w fun e w'=>e=σ (Δ (bs (aO (x-y))))/\Bw w w':=by
 have H:=zq (ay5 x y w hE h);clear hE h;go_enter func164,ntmps164;go_wp2_with fail
 refine ka H.o fun W1 hb1=>?_;go_wp2;go_ret;exact⟨rfl,hb1⟩
theorem S8(h:Mu a b c d x y):aE γ 162 #[Δ (bs (aO x)),Δ (bs (aO y))] w fun e w'=>e=σ (Δ (bs (aO (x*y))))/\Bw w w':=by
 have H:=zq (ay6 x y w hE h);clear hE h;go_enter func162,ntmps162;go_wp2_with fail
 refine ka H.o fun W1 hb1=>?_;go_wp2;go_ret;exact⟨rfl,hb1⟩
theorem Y8(h:Cr 17 a b c d x y)(h0:y≠0):aE γ 188 #[Δ (bs (aO x)),Δ (bs (aO y))] w fun e w'=>e=σ (Δ (bs (aO (x/y))))/\Bw w w':=by
 have H:=zq (ay7 x y w hE h h0);clear hE h;go_enter func188,ntmps188;go_wp2_with fail
 refine ka H.o fun W1 hb1=>?_;go_wp2;go_ret;exact⟨rfl,hb1⟩
theorem CU(h:Cr 17 a b c d x y):aE γ 73 #[Δ (bs (aO x)),Δ (bs (aO y))] w fun e w'=>e=σ (Υ Ξ (mT x y))/\Bw w w':=by
 have H:=zq (Lk x y w hE h);clear hE h;go_enter func73,ntmps73;go_wp2_with fail
 refine ka H.o fun W1 hb1=>?_;go_wp2;go_ret;exact⟨rfl,hb1⟩
theorem II(n)(hn:n.natAbs<10^18):aE γ 160 #[Υ Ξ n] w fun e w'=>e=σ (Δ (bs (aO (n:Rat))))/\Bw w w':=by
 have H:=zq (IF n w hE hn);clear hE hn;go_enter func160,ntmps160;go_wp2_with fail
 refine ka H.o fun W1 hb1=>?_;go_wp2;go_ret;exact⟨rfl,hb1⟩
end
theorem Sm.cr(hs:Sm s)(ht:Sm t):Cr 17 11 6 11 6 (bZ s) (bZ t):=⟨hs.2,ht.2,dD,dD,dD,dD,dD,dD,dD⟩
section
variable(s t:List UInt8)(w:η)(hE:mV w)(hs:Sm s)(ht:Sm t)
include hE hs ht
theorem U6:aE γ 85 #[Δ (bs s),Δ (bs t)] w fun e w'=>e=σ (bT #[Υ Ξ (fQ s t).1,Υ Ξ 0])/\Bw w w':=by
 have:=Lk _ _ w hE (hs.cr ht);rwa[hs.eq,ht.eq,show mT (bZ s) (bZ t)=(fQ s t).1 by rw[hs.cmp ht]]at this
theorem nK:aE γ 37 #[Δ (bs s),Δ (bs t)] w fun e w'=>e=σ (Υ Ξ (fQ s t).1)/\Bw w w':=by
 have H:=zq (U6 s t w hE hs ht);clear hE hs ht;go_enter func37,ntmps37;go_wp2_with fail
 refine ka H.o fun W1 hb1=>?_;go_wp2;go_ret;exact⟨rfl,hb1⟩
theorem JZ:aE γ 55 #[Δ (bs s),Δ (bs t)] w fun e w'=>e=σ (Υ Ξ (fQ s t).1)/\Bw w w':=by
 have H:=zq (U6 s t w hE hs ht);clear hE hs ht;go_enter func55,ntmps55;go_wp2_with fail
 refine ka H.o fun W1 hb1=>?_;go_wp2;go_ret;exact⟨rfl,hb1⟩
end
def ay8(s:List UInt8):Int:=JN s
theorem Sm.num(h:Sm s):ay8 s=0:=h.1
theorem Sm.x17(h:Sm s):HB 17 17 (bZ s):=h.2.mono dD dD
theorem Qz(z w):
 aE γ 158 #[Δ (bs (bR z))] w fun e w'=>e=σ (Υ Ξ ((bL z.natAbs).length:Int))/\w=w':=by
 have HT:=zq (qZ (bs (bR z)) {data:=#[45]} w);rw[gL,show({data:=#[45]}:ByteArray).data.toList=[45]from rfl,wD]at HT;have R:aQ (((bL z.natAbs).length:Int)=((bs (bL z.natAbs)).size:Int)):=by show _=_;rw[lN]
 generalize bs (bL z.natAbs)=M at *;go_enter func158,ntmps158;go_wp2_with fail
 refine kr HT.o ?_;go_wp2;go_ret;exact⟨by rw[R.o];rfl,rfl⟩
theorem QB(x w)(hE:mV w)(hx:HB 17 17 x):
 aE γ 110 #[Δ (bs (aO x))] w fun e w'=>e=σ (Υ Ξ 0)/\Bw w w':=by
 have HC:=zq (Qx x w hE hx);have HP:=zq (fun(W:η)(h:Bw w W)=>JV x W (hE.below h) hx);have Yk:=zq (fun W=>Qz x.num W);have Pu:=zq (fun W=>Qz (x.den:Int) W);have l1:=iE hx.1 dD;have l2:=iE hx.dz dD;generalize(bL x.num.natAbs).length=m at *;generalize(bL (x.den:Int).natAbs).length=d at *;obtain⟨K,hK⟩:=nm (max (m:Int) (d:Int));have hk:K<=36:=oM;clear hE hx;go_enter func110,ntmps110;go_wp2_with fail
 refine ka HC.o fun W1 hb1=>?_;go_wp2_with fail
 refine kc (HP.o _ hb1) hb1 fun W2 hB=>?_;go_wp2_with fail
 refine kr (Yk.o _) ?_;go_wp2_with fail
 refine kr (Pu.o _) ?_;go_wp2;go_ret;exact⟨rfl,hB⟩
theorem IJ(s w)(hE:mV w)(hs:Sm s):
 aE γ 44 #[Δ (bs s)] w fun e w'=>e=σ (Υ Ξ (ay8 s))/\Bw w w':=by
 have hx:=hs.x17;have HP:=zq (JV (bZ s) w hE hx);rw[hs.eq]at HP;rw[hs.num];generalize bZ s=x at *;have HT:=zq (fun W=>qZ (bs (bR x.num)) {data:=#[45]} W);rw[gL,show({data:=#[45]}:ByteArray).data.toList=[45]from rfl,wD]at HT;have l1:=iE hx.1 dD;have l2:=wE hx.2 dD;rw[<-lN]at l1 l2;generalize bs (bR (x.den:Int))=D,bs (bL x.num.natAbs)=M,bs (bR x.num)=N at *;obtain⟨K,hK⟩:=nm (max (M.size:Int) (D.size:Int));have hk:K<=36:=oM;clear hE hs hx;go_enter func44,ntmps44;go_wp2_with fail
 refine ka HP.o fun W1 hb1=>?_;go_wp2_with fail
 refine kr (HT.o _) ?_;go_wp2;go_ret;exact⟨rfl,hb1⟩
theorem Qy.pair(W:η)(T:cS)(x y:List UInt8):Qy (W.alloc (π #[Δ (bs x),Δ (bs y)] T)) (ζ ⟨W.heap.size,0,δ⟩) (dQ [x,y]):=by
 intro i hi;refine⟨_,_,rfl,?_⟩;have:=(bE.new W #[Δ (bs x),Δ (bs y)] T).cell (0+i);rw[this];have U7:i<2:=hi;rcases(by omega:i=0\/i=1)with rfl|rfl<;>rfl
theorem bE.front{b:Nat}{a0 a1 a2 a3 a4:χ}(h:bE W b #[a0,a1,a2,a3,a4] T):
 W.cell? ⟨b,0,δ⟩=ζ a0/\W.cell? ⟨b,1,δ⟩=ζ a1/\W.cell? ⟨b,2,δ⟩=ζ a2/\W.cell? ⟨b,3,δ⟩=ζ a3/\W.cell? ⟨b,4,δ⟩=ζ a4:=
 ⟨h.cell 0,h.cell 1,h.cell 2,h.cell 3,h.cell 4⟩
theorem QC{b:Nat}(a0 a1 a2 a3 a4)(hb:Bw W w')(h0:W.cell? ⟨b,0,δ⟩=ζ a0)(h1:W.cell? ⟨b,1,δ⟩=ζ a1)(h2:W.cell? ⟨b,2,δ⟩=ζ a2)(h3:W.cell? ⟨b,3,δ⟩=ζ a3)(h4:W.cell? ⟨b,4,δ⟩=ζ a4):
 w'.cell? ⟨b,0,δ⟩=ζ a0/\w'.cell? ⟨b,1,δ⟩=ζ a1/\w'.cell? ⟨b,2,δ⟩=ζ a2/\w'.cell? ⟨b,3,δ⟩=ζ a3/\w'.cell? ⟨b,4,δ⟩=ζ a4:=
 ⟨aY hb h0,aY hb h1,aY hb h2,aY hb h3,aY hb h4⟩
theorem BL(q:FQ)(hq:q.Good)(w:η)(hE:mV w):
 aE γ 58 #[q.fr.v] w fun e w'=>e=σ (Υ Ξ 0)/\Bw w w':=by
 have h17:∀k,k<2->∃x,[aO q.v,aO q.t].getD k []=aO x/\HB 17 17 x:=by
  intro k hk;rcases(by omega:k=0\/k=1)with rfl|rfl
  .exact⟨q.v,rfl,hq.hv.mono dD dD⟩
  .exact⟨q.t,rfl,hq.ht.mono dD dD⟩
 have HC:aQ (∀k,k<2->∀W,Bw w W->aE γ 109 #[Δ (bs ([aO q.v,aO q.t].getD k []))] W fun e w'=>e=σ (Υ Ξ 0)/\Bw W w'):=fun k hk W h=>by
  obtain⟨x,e,hx⟩:=h17 k hk;rw[e];exact Qx x W (hE.below h) hx
 have HN:aQ (∀k,k<2->∀W,Bw w W->aE γ 110 #[Δ (bs ([aO q.v,aO q.t].getD k []))] W fun e w'=>e=σ (Υ Ξ 0)/\Bw W w'):=fun k hk W h=>by
  obtain⟨x,e,hx⟩:=h17 k hk;rw[e];exact QB x W (hE.below h) hx
 have HP:=zq (fun(W:η)=>Gj (bs (aO q.v)) {data:=#[45]} W);have hv:¬q.v.num<0:=by
  obtain⟨n,d,h1,h2,h3,h4⟩:=hq.v;intro h;have h5:q.v<0:=Rat.not_le.1 fun c=>by have:=Rat.num_nonneg.2 c;omega
  have h6:(0:Rat)<((d:Int):Rat):=by exact_mod_cast (by omega:(0:Int)<d)
  have h7:(0:Rat)<=((n:Int):Rat):=by exact_mod_cast (by omega:(0:Int)<=n)
  rw[<-h4]at h7;have:=Rat.mul_lt_mul_of_pos_right h5 h6;grind
 have hp:yI (aO q.v) [45]=ν:=by
  rw[CP];have h3:(aO q.v).head? =(bR q.v.num).head?:=by
   rw[BI];exact tC fun e=>by have:=D8 q.v.num;rw[e]at this;revert this;decide
  rw[h3];exact decide_eq_false fun e=>hv ((yY _).1 e)
 rw[show(bs (aO q.v)).data.toList=aO q.v from rfl,show({data:=#[45]}:ByteArray).data.toList=[45]from rfl,hp]at HP;have qp:=hq.co0;have hc1:=hq.co1;have hd:=hq.dir;clear hE hq h17 hv hp;obtain⟨up,co,dir,v,t⟩:=q;unfold Fr.v Fr.cells FQ.fr;simp only[]at *;generalize aO t=st,aO v=sp at *;have gH:aQ (Bw w (w.alloc (π #[ω up,Υ Ξ co,Υ Ξ dir,Δ (bs sp),Δ (bs st)] 46))/\bE (w.alloc (π #[ω up,Υ Ξ co,Υ Ξ dir,Δ (bs sp),Δ (bs st)] 46)) w.heap.size #[ω up,Υ Ξ co,Υ Ξ dir,Δ (bs sp),Δ (bs st)] 46):=
  ⟨nA w _,bE.new w _ _⟩
 have HSP:=zq (fun W:η=>Qy.pair W 29 sp st);generalize bs st=ST,bs sp=SP at *;go_enter func58,ntmps58;go_upto_region 1 with fail
 go_cut[26] (fun v w'=>v=ω ν/\w'=w.alloc (π #[ω up,Υ Ξ co,Υ Ξ dir,Δ SP,Δ ST] 46));case first =>
  rcases hd with rfl|rfl;all_goals
   go_wp2;go_meet;case rel=>exact⟨by first |rfl|(simp;omega),rfl⟩
 case rest=>
  obtain⟨rfl,rfl⟩:=hcut;go_wp2_with fail
  have Jt:=gH.o.2;have fL:=gH.o.1;obtain⟨W0,fI⟩:=nm (w.alloc (π #[ω up,Υ Ξ co,Υ Ξ dir,Δ SP,Δ ST] 46));rw[fI]at Jt fL|-;have qq:=HSP.o W0;have Us:=Jt.alloc (π #[Δ SP,Δ ST] 29);have hBA:=fL.alloc fL.size (π #[Δ SP,Δ ST] 29);have hG:W0.heap.size=w.heap.size+1:=by rw[<-fI];simp
  rw[hG]at qq;have HA:=zq (And.intro hBA (And.intro Us qq));clear fI gH Jt fL qq Us hBA hG;obtain⟨G,hG⟩:=nm (w.heap.size+1);rw[hG]at HA|-;clear hG;go_loopw[33] (fun i wr=>∃k:Nat,i=Υ Ξ k/\k<=2/\Bw w wr/\bE wr w.heap.size #[ω up,Υ Ξ co,Υ Ξ dir,Δ SP,Δ ST] 46/\Qy wr (ζ ⟨G,0,δ⟩) (dQ [sp,st])) (fun i _=>2-(ξ i).toNat);case atStart=>exact⟨0,rfl,aP _,HA.o.1,HA.o.2.1,HA.o.2.2⟩
  case round=>
   obtain⟨k,rfl,hk,hB,hb,hrd⟩:=hrel;have Hb:=zq hb;have Hrd:=zq hrd;clear hb hrd;by_cases hlt:k<2
   .obtain⟨b,off,hab,gh⟩:=Hrd.o k (by exact hlt);injection hab with hab;injection hab with aR0 aR1;subst aR0 aR1;rw[Fu [sp,st] (by exact hlt),bD]at gh;have QD:=zq (HC.o k hlt);generalize bs ([sp,st].getD k [])=X at *;go_wp2_with fail
    refine ka (QD.o _ hB) fun W1 hb1=>?_;go_wp2;go_roundw;case rel=>exact⟨k+1,by go_num,oM,cD hB hb1 hB.size,Hb.o.below hb1 Hb.o.lt,Hrd.o.below hb1⟩
    case measure=>simp only[ξ];omega
   .obtain rfl:k=2:=oM;have c3:=Hb.o.ce 3;have c4:=Hb.o.ce 4;have lt:=Hb.o.lt;clear HC hlt hk HA;go_wp2_with fail
    have qq:=HSP.o wr;have Us:=Hb.o.alloc (π #[Δ SP,Δ ST] 29);have hBA:=hB.alloc hB.size (π #[Δ SP,Δ ST] 29);have HA:=zq (And.intro hBA (And.intro Us qq));clear qq Us hBA hB Hb Hrd c3 c4 lt;generalize wr.heap.size=G2 at *;go_loopw[49] (fun i wr=>∃k:Nat,i=Υ Ξ k/\k<=2/\Bw w wr/\bE wr w.heap.size #[ω up,Υ Ξ co,Υ Ξ dir,Δ SP,Δ ST] 46/\Qy wr (ζ ⟨G2,0,δ⟩) (dQ [sp,st])) (fun i _=>2-(ξ i).toNat);case atStart=>exact⟨0,rfl,aP _,HA.o.1,HA.o.2.1,HA.o.2.2⟩
    case round=>
     obtain⟨k,rfl,hk,hB,hb,hrd⟩:=hrel;have Hb:=zq hb;have Hrd:=zq hrd;clear hb hrd;by_cases hlt:k<2
     .obtain⟨b,off,hab,gh⟩:=Hrd.o k (by exact hlt);injection hab with hab;injection hab with aR0 aR1;subst aR0 aR1;rw[Fu [sp,st] (by exact hlt),bD]at gh;have QD:=zq (HN.o k hlt);generalize bs ([sp,st].getD k [])=X at *;go_wp2_with fail
      refine ka (QD.o _ hB) fun W1 hb1=>?_;go_wp2;go_roundw;case rel=>(repeat apply Exists.intro);exact⟨⟨k+1,by go_num,oM,cD hB hb1 hB.size,Hb.o.below hb1 Hb.o.lt,Hrd.o.below hb1⟩,rfl⟩
      case measure=>simp[ξ];omega
     .obtain rfl:k=2:=oM;have c3:=Hb.o.ce 3;have lt:=Hb.o.lt;clear HN hlt hk HA;go_wp2_with fail
      refine kr (HP.o _) ?_;go_wp2;go_ret;exact⟨rfl,hB⟩
theorem AG(q:FQ)(hq:q.Good)(w:η)(hE:mV w):
 aE γ 163 #[q.fr.v] w fun e w'=>e=σ (Δ (bs (aO q.vel)))/\Bw w w':=by
 have HW:=zq (fun(W:η)(h:Bw w W)=>II W (hE.below h) q.dir (by have:=hq.dir;omega));have HM:=zq (fun(W:η)(h:Bw w W)=>S8 _ _ W (hE.below h) (show Mu 1 1 2 2 (q.dir:Rat) q.v from⟨hq.hdir,hq.hv,dD⟩));have HR:aQ (q.vel=(q.dir:Rat)*q.v):=rfl;rw[<-HR.o]at HM;clear hE hq;obtain⟨up,co,dir,v,t⟩:=q;unfold Fr.v Fr.cells FQ.fr;simp only[]at *;generalize bs (aO (dir:Rat))=DT,bs (aO t)=ST,bs (aO v)=SP,FQ.vel ⟨up,co,dir,v,t⟩=V at *;go_enter func163,ntmps163;go_wp2;have hb:=bE.new w #[ω up,Υ Ξ co,Υ Ξ dir,Δ SP,Δ ST] 46;have hB:=nA w (π #[ω up,Υ Ξ co,Υ Ξ dir,Δ SP,Δ ST] 46);obtain⟨W,hW⟩:=nm (w.alloc (π #[ω up,Υ Ξ co,Υ Ξ dir,Δ SP,Δ ST] 46));rw[hW]at hb hB|-;clear hW;have c2:=hb.ce 2;have c3:=hb.ce 3;have lt:=hb.lt;have HB:=zq hB;clear hb hB;go_region_held3 (fun w'=>w'.cell? ⟨w.heap.size,2,δ⟩=ζ (Υ Ξ dir)/\w'.cell? ⟨w.heap.size,3,δ⟩=ζ (Δ SP)) (go_keep)
  (first
   |(go_at_call 160;refine ka (HW.o _ (HB.o.drew)) fun w1 hb=>?_;have k0:=aY hb c2;have k1:=aY hb c3;replace hb:=cD HB.o.drew hb HB.o.size)
   |(go_at_call 162;refine ka (HM.o _ hb) fun w2 hb2=>?_;have k0:=aY hb2 k0;have k1:=aY hb2 k1;replace hb:=cD hb hb2 hb.size)
   |fail)
 go_wp2;go_ret;exact⟨rfl,hb⟩
theorem ay9(x y):decide (mT x y<=0)=decide (x<=y):=by
 unfold mT;by_cases h:x<y
 .rw[ip h];simp[gZ h]
 .rw[iN h];by_cases k:y<x
  .rw[ip k];simp[Rat.not_le.2 k]
  .rw[iN k];simp[Rat.not_lt.1 k]
theorem DO.cr{q:FQ}(hq:q.Good){z:Rat}(hz:DO z):Cr 17 9 4 5 1 z q.t:=⟨hz.hb,hq.ht,dD⟩
theorem Ef(q:FQ)(hq:q.Good)(z:Rat)(hz:DO z)(w:η)(hE:mV w):
 aE γ 113 #[q.fr.v,Δ (bs (aO z))] w fun e w'=>e=σ (Δ (bs (aO (q.pos z))))/\Bw w w':=by
 have hs:=hz.hb.sub hq.ht (k:=10) dD dD;have hm:=hq.hvel.mul hs;have HC:=zq (fun(W:η)(h:Bw w W)=>CU _ _ W (hE.below h) (DO.cr hq hz));have HW:=zq (fun(W:η)(h:Bw w W)=>II W (hE.below h) q.co (by have:=hq.co0;have:=hq.co1;omega));have HV:=zq (fun(W:η)(h:Bw w W)=>AG q hq W (hE.below h));have HS:=zq (fun(W:η)(h:Bw w W)=>Nj _ _ W (hE.below h) (show Cr 16 9 4 5 1 z q.t from⟨hz.hb,hq.ht,dD⟩));have HM:=zq (fun(W:η)(h:Bw w W)=>S8 _ _ W (hE.below h) (show Mu 2 2 11 5 q.vel (z-q.t)from⟨hq.hvel,hs,dD⟩));have HA:=zq (fun(W:η)(h:Bw w W)=>Y7 _ _ W (hE.below h) (show Cr 16 5 1 13 7 (q.co:Rat) (q.vel*(z-q.t))from⟨hq.hco,hm,dD⟩));have R1:z<=q.t->aQ (q.pos z=(q.co:Rat)):=fun h=>ip h;have R2:¬z<=q.t->aQ (q.pos z=(q.co:Rat)+q.vel*(z-q.t)):=fun h=>iN h;have Ut:=ay9 z q.t;generalize mT z q.t=cm at *;have hp1:z<=q.t->cm<=0:=fun h=>of_decide_eq_true (by rw[Ut];exact decide_eq_true h);have hp2:¬z<=q.t->¬cm<=0:=fun h=>of_decide_eq_false (by rw[Ut];exact decide_eq_false h);clear hE hq hz Ut hs hm;obtain⟨up,co,dir,v,t⟩:=q;unfold Fr.v Fr.cells FQ.fr at *;simp only[]at *;have hb:=bE.new w #[ω up,Υ Ξ co,Υ Ξ dir,Δ (bs (aO v)),Δ (bs (aO t))] 46;have hB:=nA w (π #[ω up,Υ Ξ co,Υ Ξ dir,Δ (bs (aO v)),Δ (bs (aO t))] 46);by_cases hzt:z<=t
 .have R:=R1 hzt;have hp:=hp1 hzt;clear R1 R2 hp1 hp2 hzt HV HS HM HA;generalize bs (aO z)=ZT,bs (aO t)=ST,bs (aO v)=SP at *;go_enter func113,ntmps113;go_wp2_with fail
  refine ka (HC.o _ hB) fun W1 hb1=>?_;have hb:=hb.below hb1 hb.lt;have hB:=cD hB hb1 hB.size;have c1:=hb.ce 1;have lt:=hb.lt;clear hb hb1;go_wp2_with fail
  refine kc (HW.o _ hB) hB fun W2 hb2=>?_;go_wp2;go_ret;exact⟨by rw[R.o];rfl,hb2⟩
 .have R:=R2 hzt;have hp:=hp2 hzt;clear R1 R2 hp1 hp2 hzt;generalize bs (aO (FQ.vel ⟨up,co,dir,v,t⟩*(z-t)))=MT,bs (aO (FQ.vel ⟨up,co,dir,v,t⟩))=VT,bs (aO (z-t))=DT,bs (aO z)=ZT,bs (aO (co:Rat))=CT,bs (aO t)=ST,bs (aO v)=SP at *;go_enter func113,ntmps113;go_wp2_with fail
  refine ka (HC.o _ hB) fun W hb1=>?_;have hb:=hb.below hb1 hb.lt;have hB:=cD hB hb1 hB.size;obtain⟨k0,k1,k2,k3,k4⟩:=hb.front;have lt:=hb.lt;clear hb hb1;have Pv:=zq hB.drew;clear hB;go_wp2_with fail
  go_region_held3 (fun w'=>w'.cell? ⟨w.heap.size,0,δ⟩=ζ (ω up)/\w'.cell? ⟨w.heap.size,1,δ⟩=ζ (Υ Ξ co)/\w'.cell? ⟨w.heap.size,2,δ⟩=ζ (Υ Ξ dir)/\w'.cell? ⟨w.heap.size,3,δ⟩=ζ (Δ SP)/\w'.cell? ⟨w.heap.size,4,δ⟩=ζ (Δ ST)) (go_keep)
   (first
    |(go_at_call 160;refine ka (HW.o _ Pv.o) fun w1 hb1=>?_;replace Pv:=Pv.bS hb1;obtain⟨k0,k1,k2,k3,k4⟩:=QC _ _ _ _ _ hb1 k0 k1 k2 k3 k4)
    |(go_at_call 163;refine ka (HV.o _ Pv.o) fun w1 hb1=>?_;replace Pv:=Pv.bS hb1;obtain⟨k0,k1,k2,k3,k4⟩:=QC _ _ _ _ _ hb1 k0 k1 k2 k3 k4)
    |(go_at_call 164;refine ka (HS.o _ Pv.o) fun w1 hb1=>?_;replace Pv:=Pv.bS hb1;obtain⟨k0,k1,k2,k3,k4⟩:=QC _ _ _ _ _ hb1 k0 k1 k2 k3 k4)
    |(go_at_call 162;refine ka (HM.o _ Pv.o) fun w1 hb1=>?_;replace Pv:=Pv.bS hb1;obtain⟨k0,k1,k2,k3,k4⟩:=QC _ _ _ _ _ hb1 k0 k1 k2 k3 k4)
    |(go_at_call 161;refine ka (HA.o _ Pv.o) fun w1 hb1=>?_;replace Pv:=Pv.bS hb1;obtain⟨k0,k1,k2,k3,k4⟩:=QC _ _ _ _ _ hb1 k0 k1 k2 k3 k4)
    |fail)
  go_wp2;go_ret;exact⟨by rw[R.o];rfl,Pv.o⟩
theorem U8(q:FQ)(hq:q.Good)(g:Nat)(z:Rat)(hz:DO z)(w:η)(hE:mV w)(hc:w.cell? ⟨g,0,δ⟩=ζ (Δ (bs (aO z)))):
 aE γ 72 #[q.fr.v,Θ (ζ ⟨g,0,δ⟩) 1 1] w fun e w'=>e=σ (Υ Ξ 0)/\Bw w w':=by
 have HC:=zq (fun(W:η)(h:Bw w W)=>BL q hq W (hE.below h));have HN:=zq (fun W(h:Bw w W)=>QB z W (hE.below h) (hz.hb.mono dD dD));have Hc:=zq hc;clear hE hq hz hc;unfold Fr.v Fr.cells at *;generalize bs (aO z)=X,bs q.fr.st=ST,bs q.fr.sp=SP at *;go_enter func72,ntmps72;go_wp2_with fail
 have hB:=nA w (π #[ω q.fr.up,Υ Ξ q.fr.co,Υ Ξ q.fr.dir,Δ SP,Δ ST] 46);refine kc (HC.o _ hB) hB fun W1 Ig=>?_;clear hB HC;go_wp2;go_loopw[13] (fun i wr=>∃k:Nat,i=Υ Ξ k/\k<=1/\Bw w wr) (fun i _=>1-(ξ i).toNat);case atStart=>exact⟨0,rfl,aP _,Ig⟩
 case round=>
  obtain⟨k,rfl,hk,hB⟩:=hrel;by_cases hlt:k<1
  .obtain rfl:k=0:=oM;have gh:=(hB.cell (p:=⟨g,0,δ⟩) (aD w _ Hc.o)).trans Hc.o;go_wp2_with fail
   refine kc (HN.o _ hB) hB fun W2 hb2=>?_;go_wp2;go_roundw;case rel=>exact⟨1,by go_num,oM,hb2⟩
   case measure=>simp only[ξ];omega
  .obtain rfl:k=1:=oM;go_wp2;go_ret;exact⟨rfl,hB⟩
theorem U9(q:FQ)(hq:q.Good)(z:Rat)(hz:DO z)(w:η)(hE:mV w):
 aE γ 61 #[q.fr.v,Δ (bs (aO z))] w fun e w'=>e=σ (bT #[Δ (bs (aO (q.pos z))),Υ Ξ 0])/\Bw w w':=by
 have HC:=zq (fun(W:η)(h:Bw w W)g hc=>U8 q hq g z hz W (hE.below h) hc);have HP:=zq (fun(W:η)(h:Bw w W)=>Ef q hq z hz W (hE.below h));clear hE hq hz;unfold Fr.v Fr.cells at *;generalize bs (aO (q.pos z))=PT,bs (aO z)=ZT,bs q.fr.st=ST,bs q.fr.sp=SP at *;go_enter func61,ntmps61;go_wp2_with fail
 have hb:=(bE.new w #[ω q.fr.up,Υ Ξ q.fr.co,Υ Ξ q.fr.dir,Δ SP,Δ ST] 46).alloc (π #[Δ ZT] 29);have hB:=(nA w (π #[ω q.fr.up,Υ Ξ q.fr.co,Υ Ξ q.fr.dir,Δ SP,Δ ST] 46)).alloc sP (π #[Δ ZT] 29);have hr:=(bE.new (w.alloc (π #[ω q.fr.up,Υ Ξ q.fr.co,Υ Ξ q.fr.dir,Δ SP,Δ ST] 46)) #[Δ ZT] 29).ce 0;rw[aL]at hr;refine ka (HC.o _ hB _ hr) fun W1 hb1=>?_;have hb:=hb.below hb1 hb.lt;have hB:=cD hB hb1 hB.size;obtain⟨d0,d1,d2,d3,d4⟩:=hb.front;have lt:=hb.lt;clear hb hb1 hr;go_wp2_with fail
 refine ka (HP.o _ hB) fun W2 hb2=>?_;go_wp2;go_ret2;exact⟨rfl,cD hB hb2 hB.size⟩
def S9(q:FQ)(z:Rat):List UInt8:=if mT z q.t<0 then[48]else aO q.v
theorem qr(q:FQ)(hq:q.Good)(z:Rat)(hz:DO z)(w:η)(hE:mV w):
 aE γ 29 #[q.fr.v,Δ (bs (aO z))] w fun e w'=>e=σ (bT #[Δ (bs (S9 q z)),Υ Ξ 0])/\Bw w w':=by
 have HC:=zq (fun(W:η)(h:Bw w W)g hc=>U8 q hq g z hz W (hE.below h) hc);have HP:=zq (fun(W:η)(h:Bw w W)=>CU _ _ W (hE.below h) (DO.cr hq hz));have R1:aQ (mT z q.t<0->bs (S9 q z)=⟨#[48]⟩):=fun h=>by unfold S9;rw[ip h];rfl
 have R2:aQ (¬mT z q.t<0->bs (S9 q z)=bs (aO q.v)):=fun h=>by unfold S9;rw[iN h]
 clear hE hq hz;unfold Fr.v Fr.cells FQ.fr at *;simp only[]at *;generalize bs (S9 q z)=PT,bs (aO z)=ZT,bs (aO q.t)=ST,bs (aO q.v)=SP,mT z q.t=cm at *;go_enter func29,ntmps29;go_wp2_with fail
 have hb:=(bE.new w #[ω q.up,Υ Ξ q.co,Υ Ξ q.dir,Δ SP,Δ ST] 46).alloc (π #[Δ ZT] 29);have hB:=(nA w (π #[ω q.up,Υ Ξ q.co,Υ Ξ q.dir,Δ SP,Δ ST] 46)).alloc sP (π #[Δ ZT] 29);have hr:=(bE.new (w.alloc (π #[ω q.up,Υ Ξ q.co,Υ Ξ q.dir,Δ SP,Δ ST] 46)) #[Δ ZT] 29).ce 0;rw[aL]at hr;refine ka (HC.o _ hB _ hr) fun W1 hb1=>?_;have hb:=hb.below hb1 hb.lt;have hB:=cD hB hb1 hB.size;obtain⟨d0,d1,d2,d3,d4⟩:=hb.front;have lt:=hb.lt;clear hb1 hr;go_wp2_with fail
 refine ka (HP.o _ hB) fun W2 hb2=>?_;have hb:=hb.below hb2 hb.lt;have mQ:=cD hB hb2 hB.size;clear d0 d1 d2 d3 d4 lt hb2;obtain⟨d0,d1,d2,d3,d4⟩:=hb.front;have lt:=hb.lt;by_cases hc:cm<0
 .have R:=R1.o hc;clear R1 R2;go_wp2;go_ret2;exact⟨by rw[R]<;>rfl,mQ⟩
 .have R:=R2.o oM;clear R1 R2;go_wp2;go_ret2;exact⟨by rw[R]<;>rfl,mQ⟩
theorem CV(x y):(x<y/\mT x y= -1)\/(x=y/\mT x y=0)\/(y<x/\mT x y=1):=by
 unfold mT;by_cases h:x<y
 .exact .inl ⟨h,ip h⟩
 .by_cases k:y<x
  .exact .inr (.inr ⟨k,by rw[iN h,ip k]⟩)
  .exact .inr (.inl ⟨by grind,by rw[iN h,iN k]⟩)
theorem zB:aO 0=[48]:=by
 show aO ((0:Int):Rat)=_;rw[aO,ip (Fj 0),vK,SX]
theorem Gr(q:FQ)(hq:q.Good)(z:Rat)(hz:DO z)(w:η)(hE:mV w):
 aE γ 136 #[q.fr.v,Δ (bs (aO z))] w fun e w'=>e=σ (bT #[Δ (bs (aO (q.low z))),Δ (bs (aO (q.high z)))])/\Bw w w':=by
 have HC:=zq (fun(W:η)(h:Bw w W)=>CU _ _ W (hE.below h) (DO.cr hq hz));have HV:=zq (fun(W:η)(h:Bw w W)=>AG q hq W (hE.below h));have z0:bs (aO 0)={data:=#[48]}:=by rw[zB];rfl
 clear hE hq hz;unfold Fr.v Fr.cells at *;generalize hST:bs (aO q.t)=ST,hSP:bs q.fr.sp=SP at *;rw[show bs q.fr.st=ST from hST]at *;clear hSP hST;have Ut:=CV z q.t;generalize mT z q.t=cm at *;have R:aQ (∀a b,q.low z=a->q.high z=b->(σ (bT #[Δ (bs (aO (q.low z))),Δ (bs (aO (q.high z)))])=σ (bT #[Δ (bs (aO a)),Δ (bs (aO b))]))):=by
  intro a b h1 h2;rw[h1,h2]
 have hb:=bE.new w #[ω q.fr.up,Υ Ξ q.fr.co,Υ Ξ q.fr.dir,Δ SP,Δ ST] 46;have hB:=nA w (π #[ω q.fr.up,Υ Ξ q.fr.co,Υ Ξ q.fr.dir,Δ SP,Δ ST] 46);rcases Ut with⟨h,rfl⟩|⟨h,rfl⟩|⟨h,rfl⟩
 .have RR:=zq (R.o 0 0 (ip (gZ h)) (ip h));rw[z0]at RR;clear R h z0 HV;generalize bs (aO z)=ZT at *;go_enter Ya,Ui;go_wp2_with fail
  refine ka (HC.o _ hB) fun W hb1=>?_;go_wp2;go_ret2;exact⟨RR.o.symm,cD hB hb1 hB.size⟩
 .have RR:=zq (R.o 0 q.vel (ip (by grind)) (iN (by grind)));rw[z0]at RR;clear R h z0;generalize bs (aO q.vel)=VT,bs (aO z)=ZT at *;go_enter Ya,Ui;go_wp2_with fail
  refine ka (HC.o _ hB) fun W hb1=>?_;have hb:=hb.below hb1 hb.lt;have hB:=cD hB hb1 hB.size;obtain⟨d0,d1,d2,d3,d4⟩:=hb.front;have lt:=hb.lt;clear hb hb1;go_wp2_with fail
  refine ka (HV.o _ hB) fun W2 hb2=>?_;go_wp2;go_ret2;exact⟨RR.o.symm,cD hB hb2 hB.size⟩
 .have RR:=zq (R.o q.vel q.vel (iN (by grind)) (iN (by grind)));clear R h z0;generalize bs (aO q.vel)=VT,bs (aO z)=ZT at *;go_enter Ya,Ui;go_wp2_with fail
  refine ka (HC.o _ hB) fun W hb1=>?_;have hb:=hb.below hb1 hb.lt;have hB:=cD hB hb1 hB.size;obtain⟨k0,k1,k2,k3,k4⟩:=hb.front;have lt:=hb.lt;have Pv:=zq hB.drew;clear hb hb1 hB;go_wp2_with fail
  go_region_held3 (fun w'=>w'.cell? ⟨w.heap.size,0,δ⟩=ζ (ω q.fr.up)/\w'.cell? ⟨w.heap.size,1,δ⟩=ζ (Υ Ξ q.fr.co)/\w'.cell? ⟨w.heap.size,2,δ⟩=ζ (Υ Ξ q.fr.dir)/\w'.cell? ⟨w.heap.size,3,δ⟩=ζ (Δ SP)/\w'.cell? ⟨w.heap.size,4,δ⟩=ζ (Δ ST)) (go_keep)
   (first
    |(go_at_call 163;refine ka (HV.o _ Pv.o) fun w1 hb1=>?_;replace Pv:=Pv.bS hb1;obtain⟨k0,k1,k2,k3,k4⟩:=QC _ _ _ _ _ hb1 k0 k1 k2 k3 k4)
    |fail)
  go_wp2;go_ret2;exact⟨RR.o.symm,Pv.o⟩
def Fr.q(f:Fr):FQ:=⟨f.up,f.co,f.dir,bZ f.sp,bZ f.st⟩
theorem FQ.fr_q(q:FQ):q.fr.q=q:=by
 cases q;simp only[Fr.q,FQ.fr,iI]
def Fr.Ok(f:Fr):Prop:=f.q.Good/\f.q.fr=f
theorem Fr.Ok.good{f:Fr}(h:f.Ok):f.q.Good/\f.q.fr=f:=h
theorem Fr.Ok.dir{f:Fr}(h:f.Ok):f.dir=1\/f.dir= -1:=h.good.1.dir
theorem FQ.Good.ok{q:FQ}(h:q.Good):q.fr.Ok:=by unfold Fr.Ok;rw[FQ.fr_q];exact⟨h,rfl⟩
def Lz(z:List UInt8):Prop:=JN z=0/\DO (bZ z)
theorem Lz.sm{z:List UInt8}(h:Lz z):Sm z:=⟨h.1,h.2.hb.mono dD dD⟩
theorem Lz.eq{z:List UInt8}(h:Lz z):aO (bZ z)=z:=ac3 h.1
theorem Lz.of(h:DO z):Lz (aO z):=⟨Fq (h.hb.hq (k:=9) dD dD) dD,by rw[iI];exact h⟩
def J0(f:Fr)(z:List UInt8):List UInt8:=aO (f.q.pos (bZ z))
def dL(fs:List Fr)(z:List UInt8):List (List UInt8):=fs.map fun f=>J0 f z
theorem uS(fs z):(dL fs z).length=fs.length:=by unfold dL;rw[υ]
theorem Ta{f:Fr}{z:List UInt8}(hf:f.Ok)(hz:Lz z):Sm (J0 f z):=Sm.of (hf.1.pos_hb hz.2)
theorem ae0{fs:List Fr}{z:List UInt8}(hf:∀f∈fs,f.Ok)(hz:Lz z):∀s∈dL fs z,Sm s:=by
 intro s hs;obtain⟨f,h1,rfl⟩:=List.mem_map.1 hs;exact Ta (hf f h1) hz
section
variable(f:Fr)(hf:f.Ok)(z:List UInt8)(hz:Lz z)(w:η)(hE:mV w)
include hf hz hE
theorem Tc:
 aE γ 61 #[f.v,Δ (bs z)] w fun e w'=>e=σ (bT #[Δ (bs (J0 f z)),Υ Ξ 0])/\Bw w w':=by
 have:=U9 f.q hf.1 (bZ z) hz.2 w hE;rwa[hf.2,hz.eq]at this
theorem ae1:
 aE γ 29 #[f.v,Δ (bs z)] w fun e w'=>e=σ (bT #[Δ (bs (S9 f.q (bZ z))),Υ Ξ 0])/\Bw w w':=by
 have:=qr f.q hf.1 (bZ z) hz.2 w hE;rwa[hf.2,hz.eq]at this
end
def FP(f:Fr)(z:List UInt8):List UInt8:=S9 f.q (bZ z)
theorem ae2{fs:List Fr}{z:List UInt8}(hk:k<fs.length):dQ ((dL fs z).take (k+1))=dQ ((dL fs z).take k)++[Δ (bs (J0 (fs.getD k Γ) z))]:=by
 unfold dL dQ;rw[bM (by rw[υ];exact hk)];simp[Ω,hk]
theorem Eg:(Tryz.prog.info? 29).map (fun i=>(i.zero,i.size,i.bytes))=ζ (ζ (Δ ⟨#[]⟩),1,16):=kF
theorem Qy.own{a:Option bW}{n:Nat}(h:w.ownsRow cH e 1 (Θ a n cap) n xs):Qy w a xs:=by
 intro i hi;have hl:=h.1;simp only[Nat.mul_one]at hl;rcases h.2 with⟨_,h2⟩|⟨g,c,pZ,hv,_⟩
 .omega
 .injection hv with e1 e2 e3;subst e1 e3;refine⟨g,0,rfl,?_⟩;have:=dN h i oM;rw[bD,this];simp[Ω,aS hi]
theorem bz0{o:eZ}{Q:sG->iS->η->Prop}(Io:o.guard=δ)(s x)(ho:o.op=.call {callee:=.builtin .append,args:=#[s,x],argTypes:=#[68,68]})(cH v n xs)(hs:a.eval s=v)(cT:w.ownsRow cH 29 1 v n xs)(y)(hx:a.eval x=Θ (ζ ⟨w.heap.size,0,δ⟩) 1 1)(OZ:n+1<=2147483648)(kH:cH<=w.heap.size)(h:∀g cap w',w'.ownsRow cH 29 1 (Θ (ζ ⟨g,0,δ⟩) (n+1) cap) (n+1) (xs++[Δ y])->cH<=g->w.grownBy w' v.ownBlock->
  Dk γ cF Q rest (a.put o.dst (Θ (ζ ⟨g,0,δ⟩) (n+1) cap)) w'):
 Dk γ cF Q (o::rest) a (w.alloc (π #[Δ y] 29)):=by
 obtain⟨i0,hi,Ak,yP,uT⟩:=jJ Eg;exact xH Io s x 68 ho cH 29 i0 (Δ ⟨#[]⟩) 1 16 underlying68 hi Ak yP uT rfl dD v n xs hs cT [Δ y] hx rfl (by simp[iP]) OZ dD kH h
structure Pt where
 side:Int
 fr:List UInt8
 en:List UInt8
abbrev Pt.cells(p:Pt):Array χ:=#[Υ Ξ p.side,Δ (bs p.fr),Δ (bs p.en)]
abbrev Pt.v(p:Pt):χ:=bQ p.cells
instance:Inhabited Pt:=⟨⟨0,[],[]⟩⟩
structure Lp where
 a:Option bW
 cap:Nat
 ps:List Pt
def Lp.v(l:Lp):χ:=Θ l.a l.ps.length l.cap
instance:Inhabited Lp:=⟨⟨δ,0,[]⟩⟩
def yA(W:η)(a:Option bW)(fs:List Fr):Prop:=
 ∀i,i<fs.length->∃b off,a=ζ ⟨b,off,δ⟩/\∀j,j<5->W.cell? ⟨b,off+i*5+j,δ⟩=ζ ((fs.getD i Γ).cells.getD j ψ)
def Ih(W:η)(a:Option bW)(ps:List Pt):Prop:=
 ∀i,i<ps.length->∃b off,a=ζ ⟨b,off,δ⟩/\∀j,j<3->W.cell? ⟨b,off+i*3+j,δ⟩=ζ ((ps.getD i Γ).cells.getD j ψ)
def CE(W:η)(a:Option bW)(ls:List Lp):Prop:=
 ∀i,i<ls.length->∃b off,a=ζ ⟨b,off,δ⟩/\W.cell? ⟨b,off+i,δ⟩=ζ (ls.getD i Γ).v/\Ih W (ls.getD i Γ).a (ls.getD i Γ).ps
def Al(W:η)(a:Option bW)(xs:List (List UInt8)):Prop:=
 ∀i,i<xs.length->∃b off,a=ζ ⟨b,off,δ⟩/\W.cell? ⟨b,off+i,δ⟩=ζ (Δ (bs (xs.getD i [])))
theorem yA.below{a:Option bW}{fs:List Fr}(h:yA w a fs)(hb:Bw w w'):yA w' a fs:=by
 intro i hi;obtain⟨b,off,rfl,hc⟩:=h i hi;exact⟨b,off,rfl,fun j hj=>(hb.cell (p:=⟨b,off+i*5+j,δ⟩) (aD w _ (hc j hj))).trans (hc j hj)⟩
theorem Ih.below{a:Option bW}{ps:List Pt}(h:Ih w a ps)(hb:Bw w w'):Ih w' a ps:=by
 intro i hi;obtain⟨b,off,rfl,hc⟩:=h i hi;exact⟨b,off,rfl,fun j hj=>(hb.cell (p:=⟨b,off+i*3+j,δ⟩) (aD w _ (hc j hj))).trans (hc j hj)⟩
theorem CE.below{a:Option bW}{ls:List Lp}(h:CE w a ls)(hb:Bw w w'):CE w' a ls:=by
 intro i hi;obtain⟨b,off,rfl,hc,hp⟩:=h i hi;exact⟨b,off,rfl,(hb.cell (p:=⟨b,off+i,δ⟩) (aD w _ hc)).trans hc,hp.below hb⟩
theorem Al.below{a:Option bW}{xs:List (List UInt8)}(h:Al w a xs)(hb:Bw w w'):Al w' a xs:=by
 intro i hi;obtain⟨b,off,rfl,hc⟩:=h i hi;exact⟨b,off,rfl,(hb.cell (p:=⟨b,off+i,δ⟩) (aD w _ hc)).trans hc⟩
theorem ae3{a:Option bW}{xs:List (List UInt8)}(h:Qy w a (dQ xs)):Al w a xs:=by
 intro i hi;have:=h i (by rw[uQ];exact hi);rwa[Fu xs hi]at this
theorem Al.one(w:η)(z:List UInt8):Al (w.alloc (π #[Δ (bs z)] 29)) (ζ ⟨w.heap.size,0,δ⟩) [z]:=by
 intro i hi;have hi:i<1:=hi;obtain rfl:i=0:=oM;exact⟨_,_,rfl,(bE.new w #[Δ (bs z)] 29).cell 0⟩
theorem yA.at{a:Option bW}{fs:List Fr}(h:yA w a fs)(hi:i<fs.length){f:Fr}(hf:fs.getD i Γ=f):∃b off,a=ζ ⟨b,off,δ⟩/\
 w.cell? ⟨b,off+i*5,δ⟩=ζ (ω f.up)/\w.cell? ⟨b,off+i*5+1,δ⟩=ζ (Υ Ξ f.co)/\w.cell? ⟨b,off+i*5+2,δ⟩=ζ (Υ Ξ f.dir)/\
 w.cell? ⟨b,off+i*5+3,δ⟩=ζ (Δ (bs f.sp))/\w.cell? ⟨b,off+i*5+4,δ⟩=ζ (Δ (bs f.st)):=by
 obtain⟨b,off,rfl,hc⟩:=h i hi;subst hf;exact⟨b,off,rfl,hc 0 dD,hc 1 dD,hc 2 dD,hc 3 dD,hc 4 dD⟩
theorem Ih.at{a:Option bW}{ps:List Pt}(h:Ih w a ps)(hi:i<ps.length){p:Pt}(hp:ps.getD i Γ=p):∃b off,a=ζ ⟨b,off,δ⟩/\
 w.cell? ⟨b,off+i*3,δ⟩=ζ (Υ Ξ p.side)/\w.cell? ⟨b,off+i*3+1,δ⟩=ζ (Δ (bs p.fr))/\w.cell? ⟨b,off+i*3+2,δ⟩=ζ (Δ (bs p.en)):=by
 obtain⟨b,off,rfl,hc⟩:=h i hi;subst hp;exact⟨b,off,rfl,hc 0 dD,hc 1 dD,hc 2 dD⟩
theorem CE.at{a:Option bW}{ls:List Lp}(h:CE w a ls)(hi:i<ls.length){l:Lp}(hl:ls.getD i Γ=l):∃b off,a=ζ ⟨b,off,δ⟩/\
 w.cell? ⟨b,off+i,δ⟩=ζ (Θ l.a l.ps.length l.cap)/\Ih w l.a l.ps:=by
 obtain⟨b,off,rfl,hc,hp⟩:=h i hi;subst hl;exact⟨b,off,rfl,hc,hp⟩
theorem qu(g lb)(eg:∀ args w,(nU g args).run γ w= .ok (.enter g args) w)(a n cap xs)(p:Nat->Bool)(w)(hn:xs.length=n)(tY:n<=9223372036854775807)(hc:yA w a xs)(hp:∀ i,i < n->∀ W,Bw w W->aE γ g (#[(xs.getD i Γ).v] ++ lb) W (Rt (ω (p i)) W)):
 aE γ 108 #[Θ a n cap,.func (.func g) #[] lb] w (Rt (Υ Ξ (kR p n)) w):=by
 have Hc:=zq hc;have Hn:=zq hn;have Hp:=zq hp;clear hc hn hp;go_enter func108,ntmps108;go_wp2;go_loopw [5,8] (fun _ i wr=>∃ k:Nat,i=Υ Ξ k/\k<=n/\Bw w wr/\aQ (kR p k= -1)) (fun _ i _=>n - (ξ i).toNat);case atStart=>exact⟨0,rfl,aP _,μ _ w,rfl⟩
 case round=>
  obtain⟨k,rfl,hk,hB,hz⟩:=hrel;by_cases hlt:k < n
  .obtain⟨b,off,rfl,c0,c1,c2,c3,c4⟩:=(Hc.o.below hB).at (i:=k) (by rw [Hn.o];exact hlt) rfl;have Gs:=zq (Hp.o k hlt);unfold Fr.v Fr.cells at Gs;generalize xs.getD k Γ=x at *;cases hq:p k with
   | true=>
    rw [hq] at Gs;have R:aQ (kR p n=k):=zV hz.o hq hlt;clear hq;go_wp2_with fail
    refine ka (Gs.o _ hB) fun W1 hb1=>?_;go_wp2;go_ret;exact⟨by rw [R.o] <;> rfl,cD hB hb1 hB.size⟩
   | false=>
    rw [hq] at Gs;have uT:aQ (kR p (k+1)= -1):=yZ hz.o hq;clear hq;go_wp2_with fail
    refine ka (Gs.o _ hB) fun W1 hb1=>?_;go_wp2;go_roundw;case rel=>exact⟨k+1,by go_num,oM,cD hB hb1 hB.size,uT⟩
    case measure=>simp only [ξ];omega
  .obtain rfl:n=k:=oM;go_wp2;go_ret;exact⟨by rw [hz.o] <;> rfl,hB⟩
theorem qv(g lb)(eg:∀args w,(nU g args).run γ w=.ok (.enter g args) w)(a n cap xs)(p:Nat->Bool)(w)(hn:xs.length=n)(tY:n<=9223372036854775807)(hc:yA w a xs)(hp:∀i,i<n->∀W,Bw w W->aE γ g (#[(xs.getD i Γ).v]++lb) W (Rt (ω (p i)) W)):
 aE γ 56 #[Θ a n cap,.func (.func g) #[] lb] w (Rt (ω (anyN p n)) w):=by
 have HI:=zq (qu g lb eg a n cap xs p w hn tY hc hp);have R:aQ (∀c,kR p n=c->anyN p n=decide (0<=c)):=fun c h=>by rw[<-h];exact BA p n
 clear hp hc hn;generalize kR p n=c at *;have R:=zq (R.o c rfl);go_enter func56,ntmps56;go_wp2_with fail
 refine ka HI.o fun W1 hb1=>?_;go_wp2;go_ret;exact⟨by rw[R.o]<;>rfl,hb1⟩
theorem ae4(g lb)(eg:∀ args w,(nU g args).run γ w= .ok (.enter g args) w)(a n cap xs)(p:Nat->Bool)(w)(hn:xs.length=n)(tY:n<=9223372036854775807)(hc:Ih w a xs)(hp:∀ i,i < n->∀ W,Bw w W->aE γ g (#[(xs.getD i Γ).v] ++ lb) W (Rt (ω (p i)) W)):
 aE γ 88 #[Θ a n cap,.func (.func g) #[] lb] w (Rt (Υ Ξ (kR p n)) w):=by
 have Hc:=zq hc;have Hn:=zq hn;have Hp:=zq hp;clear hc hn hp;go_enter func88,ntmps88;go_wp2;go_loopw [5,8] (fun _ i wr=>∃ k:Nat,i=Υ Ξ k/\k<=n/\Bw w wr/\aQ (kR p k= -1)) (fun _ i _=>n - (ξ i).toNat);case atStart=>exact⟨0,rfl,aP _,μ _ w,rfl⟩
 case round=>
  obtain⟨k,rfl,hk,hB,hz⟩:=hrel;by_cases hlt:k < n
  .obtain⟨b,off,rfl,c0,c1,c2⟩:=(Hc.o.below hB).at (i:=k) (by rw [Hn.o];exact hlt) rfl;have Gs:=zq (Hp.o k hlt);unfold Pt.v Pt.cells at Gs;generalize xs.getD k Γ=x at *;cases hq:p k with
   | true=>
    rw [hq] at Gs;have R:aQ (kR p n=k):=zV hz.o hq hlt;clear hq;go_wp2_with fail
    refine ka (Gs.o _ hB) fun W1 hb1=>?_;go_wp2;go_ret;exact⟨by rw [R.o] <;> rfl,cD hB hb1 hB.size⟩
   | false=>
    rw [hq] at Gs;have uT:aQ (kR p (k+1)= -1):=yZ hz.o hq;clear hq;go_wp2_with fail
    refine ka (Gs.o _ hB) fun W1 hb1=>?_;go_wp2;go_roundw;case rel=>exact⟨k+1,by go_num,oM,cD hB hb1 hB.size,uT⟩
    case measure=>simp only [ξ];omega
  .obtain rfl:n=k:=oM;go_wp2;go_ret;exact⟨by rw [hz.o] <;> rfl,hB⟩
theorem Va(g lb)(eg:∀args w,(nU g args).run γ w=.ok (.enter g args) w)(a n cap xs)(p:Nat->Bool)(w)(hn:xs.length=n)(tY:n<=9223372036854775807)(hc:Ih w a xs)(hp:∀i,i<n->∀W,Bw w W->aE γ g (#[(xs.getD i Γ).v]++lb) W (Rt (ω (p i)) W)):
 aE γ 40 #[Θ a n cap,.func (.func g) #[] lb] w (Rt (ω (anyN p n)) w):=by
 have HI:=zq (ae4 g lb eg a n cap xs p w hn tY hc hp);have R:aQ (∀c,kR p n=c->anyN p n=decide (0<=c)):=fun c h=>by rw[<-h];exact BA p n
 clear hp hc hn;generalize kR p n=c at *;have R:=zq (R.o c rfl);go_enter func40,ntmps40;go_wp2_with fail
 refine ka HI.o fun W1 hb1=>?_;go_wp2;go_ret;exact⟨by rw[R.o]<;>rfl,hb1⟩
theorem ae5(g lb)(eg:∀ args w,(nU g args).run γ w= .ok (.enter g args) w)(a n cap xs)(p:Nat->Bool)(w)(hn:xs.length=n)(tY:n<=9223372036854775807)(hc:CE w a xs)(hp:∀ i,i < n->∀ W,Bw w W->aE γ g (#[Θ (xs.getD i Γ).a (xs.getD i Γ).ps.length (xs.getD i Γ).cap] ++ lb) W (Rt (ω (p i)) W)):
 aE γ 112 #[Θ a n cap,.func (.func g) #[] lb] w (Rt (Υ Ξ (kR p n)) w):=by
 have Hc:=zq hc;have Hn:=zq hn;have Hp:=zq hp;clear hc hn hp;go_enter func112,ntmps112;go_wp2;go_loopw [5,8] (fun _ i wr=>∃ k:Nat,i=Υ Ξ k/\k<=n/\Bw w wr/\aQ (kR p k= -1)) (fun _ i _=>n - (ξ i).toNat);case atStart=>exact⟨0,rfl,aP _,μ _ w,rfl⟩
 case round=>
  obtain⟨k,rfl,hk,hB,hz⟩:=hrel;by_cases hlt:k < n
  .obtain⟨b,off,rfl,c0,_⟩:=(Hc.o.below hB).at (i:=k) (by rw [Hn.o];exact hlt) rfl;have Gs:=zq (Hp.o k hlt);generalize xs.getD k Γ=x at *;cases hq:p k with
   | true=>
    rw [hq] at Gs;have R:aQ (kR p n=k):=zV hz.o hq hlt;clear hq;go_wp2_with fail
    refine ka (Gs.o _ hB) fun W1 hb1=>?_;go_wp2;go_ret;exact⟨by rw [R.o] <;> rfl,cD hB hb1 hB.size⟩
   | false=>
    rw [hq] at Gs;have uT:aQ (kR p (k+1)= -1):=yZ hz.o hq;clear hq;go_wp2_with fail
    refine ka (Gs.o _ hB) fun W1 hb1=>?_;go_wp2;go_roundw;case rel=>exact⟨k+1,by go_num,oM,cD hB hb1 hB.size,uT⟩
    case measure=>simp only [ξ];omega
  .obtain rfl:n=k:=oM;go_wp2;go_ret;exact⟨by rw [hz.o] <;> rfl,hB⟩
theorem Vb(g lb)(eg:∀args w,(nU g args).run γ w=.ok (.enter g args) w)(a n cap xs)(p:Nat->Bool)(w)(hn:xs.length=n)(tY:n<=9223372036854775807)(hc:CE w a xs)(hp:∀i,i<n->∀W,Bw w W->aE γ g (#[Θ (xs.getD i Γ).a (xs.getD i Γ).ps.length (xs.getD i Γ).cap]++lb) W (Rt (ω (p i)) W)):
 aE γ 59 #[Θ a n cap,.func (.func g) #[] lb] w (Rt (ω (anyN p n)) w):=by
 have HI:=zq (ae5 g lb eg a n cap xs p w hn tY hc hp);have R:aQ (∀c,kR p n=c->anyN p n=decide (0<=c)):=fun c h=>by rw[<-h];exact BA p n
 clear hp hc hn;generalize kR p n=c at *;have R:=zq (R.o c rfl);go_enter func59,ntmps59;go_wp2_with fail
 refine ka HI.o fun W1 hb1=>?_;go_wp2;go_ret;exact⟨by rw[R.o]<;>rfl,hb1⟩
theorem az0(g lb)(eg:∀args w,(nU g args).run γ w=.ok (.enter g args) w)(a n cap xs)(p:Nat->Bool)(w)(hn:xs.length=n)(tY:n<=9223372036854775807)(hc:Al w a xs)(hp:∀i,i<n->∀W,Bw w W->aE γ g (#[Δ (bs (xs.getD i []))]++lb) W (Rt (ω (p i)) W)):
 aE γ 53 #[Θ a n cap,.func (.func g) #[] lb] w (Rt (Υ Ξ (kR p n)) w):=by
 have Hc:=zq hc;have Hn:=zq hn;have Hp:=zq hp;clear hc hn hp;go_enter func53,ntmps53;go_wp2;go_loopw[5,8] (fun _ i wr=>∃k:Nat,i=Υ Ξ k/\k<=n/\Bw w wr/\aQ (kR p k= -1)) (fun _ i _=>n-(ξ i).toNat);case atStart=>exact⟨0,rfl,aP _,μ _ w,rfl⟩
 case round=>
  obtain⟨k,rfl,hk,hB,hz⟩:=hrel;by_cases hlt:k<n
  .obtain⟨b,off,rfl,c0⟩:=(Hc.o.below hB) k (by rw[Hn.o];exact hlt);have Gs:=zq (Hp.o k hlt);generalize xs.getD k []=x at *;cases hq:p k with
   |true=>
    rw[hq]at Gs;have R:aQ (kR p n=k):=zV hz.o hq hlt;clear hq;go_wp2_with fail
    refine ka (Gs.o _ hB) fun W1 hb1=>?_;go_wp2;go_ret;exact⟨by rw[R.o]<;>rfl,cD hB hb1 hB.size⟩
   |false=>
    rw[hq]at Gs;have uT:aQ (kR p (k+1)= -1):=yZ hz.o hq;clear hq;go_wp2_with fail
    refine ka (Gs.o _ hB) fun W1 hb1=>?_;go_wp2;go_roundw;case rel=>exact⟨k+1,by go_num,oM,cD hB hb1 hB.size,uT⟩
    case measure=>simp only[ξ];omega
  .obtain rfl:n=k:=oM;go_wp2;go_ret;exact⟨by rw[hz.o]<;>rfl,hB⟩
def qJ(f:Fr):Int:=if f.up=ι then(if 0<f.dir then 3 else 1)else(if 0<f.dir then 0 else 2)
def GP(f:Fr):Int:=if f.up=ι then -f.dir else f.dir
def ae6(d:Int):Int:=if d<2 then 1 else -1
theorem gk{f:Fr}(h:f.dir=1\/f.dir= -1):ae6 (qJ f)=GP f:=by
 unfold ae6 qJ GP;cases f.up<;>rcases h with e|e<;>rw[e]<;>decide
theorem uU(f w):
 aE γ 31 #[f.v] w (Rt (Υ Ξ (qJ f)) w):=by
 obtain⟨up,co,dir,sp,st⟩:=f;have R:aQ (qJ ⟨up,co,dir,sp,st⟩=if up=ι then(if 0<dir then 3 else 1)else(if 0<dir then 0 else 2)):=rfl;unfold Fr.v Fr.cells;simp only[];have hB:=zq (nA w (π #[ω up,Υ Ξ co,Υ Ξ dir,Δ (bs sp),Δ (bs st)] 46));generalize bs st=ST,bs sp=SP at *;cases up;case' false=>have R2:aQ (qJ ⟨ν,co,dir,sp,st⟩=if 0<dir then 0 else 2):=R;clear R;have R:=R2;clear R2
 case' true=>have R2:aQ (qJ ⟨ι,co,dir,sp,st⟩=if 0<dir then 3 else 1):=R;clear R;have R:=R2;clear R2
 all_goals
  by_cases hd:0<dir;case' pos=>rw[ip hd]at R
  case' neg=>rw[iN hd]at R
  all_goals
   go_enter func31,ntmps31;go_wp2;go_ret;exact⟨by rw[R.o]<;>rfl,hB.o⟩
theorem QG(d w):
 aE γ 42 #[Υ Ξ d] w fun e w'=>e=σ (Υ Ξ (ae6 d))/\w=w':=by
 by_cases h:d<2;case' pos=>have R:aQ (ae6 d=1):=ip h
 case' neg=>have R:aQ (ae6 d= -1):=iN h
 all_goals
  go_enter func42,ntmps42;go_wp2;go_ret;exact⟨by rw[R.o]<;>rfl,rfl⟩
theorem IK{p:Nat->Bool}:∀{n:Nat},(∀i,i<n->p i=ν)->anyN p n=ν
 |0,_=>rfl
 |n+1,h=>by rw[anyN,IK fun i hi=>h i oM,h n oM];rfl
theorem az1(f:Fr)(w:η)(hE:mV w)(hf:f.Ok):
 aE γ 57 #[f.v] w (Rt (ω ν) w):=by
 have HC:aQ (∀W,Bw w W->aE γ 58 #[f.v] W (Rt (Υ Ξ 0) W)):=fun W h=>by
  have:=BL f.q hf.1 W (hE.below h);rwa[hf.2]at this
 have hB:=nA w (π f.cells 46);clear hE hf;obtain⟨up,co,dir,sp,st⟩:=f;unfold Fr.v Fr.cells at *;simp only[]at *;generalize bs st=ST,bs sp=SP at *;go_enter func57,ntmps57;go_wp2_with fail
 refine kc (HC.o _ hB) hB fun W1 hb1=>?_;go_wp2;go_ret;exact⟨rfl,hb1⟩
theorem az2(a n cap)(hn:n<=96)(w):
 aE γ 60 #[Θ a n cap] w fun e w'=>e=σ (ω ν)/\w=w':=by
 have h:¬(96:Int)<(n:Int):=oM;go_enter func60,ntmps60;go_wp2;go_ret;exact⟨rfl,rfl⟩
def qw(a:Option bW)(n ca:Nat)(fs:List Fr)(zs:List (List UInt8))(w:η)(e:Fg)(w':η):Prop:=
 (∃a2 n2 c2,e=σ (bT #[bQ #[Θ a n ca,Θ a2 n2 c2],Υ Ξ 0])/\(0<zs.length->n2=n/\Al w' a2 (dL fs (zs.getD 0 []))))/\Bw w w'
theorem bE.two{b:Nat}{x y:χ}(h:bE W b #[x,y] T):W.cell? ⟨b,0,δ⟩=ζ x/\W.cell? ⟨b,1,δ⟩=ζ y/\W.frozen? ⟨b,0,δ⟩=ν/\W.frozen? ⟨b,1,δ⟩=ν/\b<W.heap.size:=
 ⟨h.cell 0,h.cell 1,h.fz 0,h.fz 1,h.lt⟩
def Dw(ls:List Lp):Prop:=∀l∈ls,l.ps.length<=96/\∀p∈l.ps,Sm p.fr/\Sm p.en
structure J2(w:η)(a b:Option bW)(n m:Nat)(fs:List Fr)(ls:List Lp):Prop where
 hf:fs.length=n
 hl:ls.length=m
 hn:n<=24
 hm:m<=24
 hF:∀f∈fs,f.Ok
 hL:Dw ls
 rf:yA w a fs
 rl:CE w b ls
theorem J2.below{a b:Option bW}{n m:Nat}{fs:List Fr}{ls:List Lp}(h:J2 w a b n m fs ls)(hb:Bw w w'):J2 w' a b n m fs ls:=
 {h with rf:=h.rf.below hb,rl:=h.rl.below hb}
theorem uV(a b c n m k ca cb cc fs ls zs w)(hE:mV w)(hT:J2 w a b n m fs ls)(hz:zs.length=k)(hk:k<=1000000)(hzs:∀ z∈zs,Lz z)(rz:Al w c zs):
 aE γ 25 #[Θ a n ca,Θ b m cb,Θ c k cc] w (qw a n ca fs zs w):=by
 obtain⟨hf,hl,hn,hm,sR,My,rf,rl⟩:=hT;have HA:aQ (∀ W,Bw w W->aE γ 56 #[Θ a n ca,.func (.func 57) #[] #[]] W (Rt (ω ν) W)):=fun W hW=>by
  have:=qv 57 #[] (iC func57 kF rfl) a n ca fs (fun _=>ν) W hf oM (rf.below hW) (fun i hi W2 h2=>by
   rw [AA];exact az1 _ W2 (hE.below (hW.trans (h2.mono hW.size))) (sR _ (aN (by rw [hf];exact hi) Γ)))
  rwa [IK fun _ _=>rfl] at this
 have HL:aQ (∀ W,Bw w W->aE γ 59 #[Θ b m cb,.func (.func 60) #[] #[]] W (Rt (ω ν) W)):=fun W hW=>by
  have:=Vb 60 #[] (iC func60 kF rfl) b m cb ls (fun _=>ν) W hl oM (rl.below hW) (fun i hi W2 h2=>by
   rw [AA];refine(az2 _ _ _ (My _ (aN (by rw [hl];exact hi) Γ)).1 W2).mono ?_;rintro e w' ⟨h1,rfl⟩;exact⟨h1,μ _ _⟩)
  rwa [IK fun _ _=>rfl] at this
 have HZ:aQ (∀ i,i < k->∀ W,Bw w W->aE γ 44 #[Δ (bs (zs.getD i []))] W (Rt (Υ Ξ 0) W)):=fun i hi W h=>by
  have h1:=(hzs _ (aN (by rw [hz];exact hi) [])).sm;have:=IJ (zs.getD i []) W (hE.below h) h1;rwa [h1.num] at this
 have HP:aQ (0 < k->∀ i,i < n->∀ W,Bw w W->aE γ 61 #[(fs.getD i Γ).v,Δ (bs (zs.getD 0 []))] W (Rt (bT #[Δ (bs (J0 (fs.getD i Γ) (zs.getD 0 []))),Υ Ξ 0]) W)):=fun hk0 i hi W h=>
  Tc _ (sR _ (aN (by rw [hf];exact hi) Γ)) _ (hzs _ (aN (by rw [hz];exact hk0) [])) W (hE.below h)
 have HT:aQ (∀ i,i < n->dQ ((dL fs (zs.getD 0 [])).take (i+1))=dQ ((dL fs (zs.getD 0 [])).take i) ++ [Δ (bs (J0 (fs.getD i Γ) (zs.getD 0 [])))]):=fun i hi=>ae2 (by rw [hf];exact hi);have HLn:aQ ((dL fs (zs.getD 0 [])).take n=dL fs (zs.getD 0 [])):=List.take_of_length_le (by rw [uS,hf];exact θ _);have Hf:=zq hf;have Hz:=zq hz;have Rf:=zq rf;have Rz:=zq rz;have Q0:=zq (bE.new w #[Θ δ 0 0,Θ δ 0 0] 70);have gH:=zq (nA w (π #[Θ δ 0 0,Θ δ 0 0] 70));clear hE hf hl hz sR hzs My rf rl rz;go_enter func25,ntmps25;go_wp2_with fail
 refine ka (HA.o _ gH.o) fun W1 hb1=>?_;have Ig:=cD gH.o hb1 gH.o.size;have Q1:=Q0.bb hb1;clear hb1 HA Q0 gH;go_wp2;go_loopw [26] (fun i wr=>∃ j:Nat,i=Υ Ξ j/\j<=k/\aQ (Bw w wr)/\aQ (bE wr w.heap.size #[Θ δ 0 0,Θ δ 0 0] 70)) (fun i _=>k - (ξ i).toNat);case atStart=>exact⟨0,rfl,aP _,Ig,Q1.o⟩
 case round=>
  clear Ig Q1;obtain⟨j,rfl,hj,HB,HQ⟩:=hrel;by_cases hlt:j < k
  .obtain⟨p,off,rfl,c0⟩:=(Rz.o.below HB.o) j (by rw [Hz.o];exact hlt);have HZj:=zq (HZ.o j hlt);generalize bs (zs.getD j [])=Z at *;go_wp2_with fail
   refine ka (HZj.o _ HB.o) fun W2 hb2=>?_;go_wp2;go_roundw;case rel=>exact⟨j+1,by go_num,oM,cD HB.o hb2 HB.o.size,HQ.o.below hb2 HQ.o.lt⟩
   case measure=>simp only [ξ];omega
  .obtain rfl:k=j:=oM;clear HZ hlt;rename η=>wB;go_wp2_with fail
   refine ka (HL.o _ HB.o) fun W3 hb3=>?_;have Ft:=zq (cD HB.o hb3 HB.o.size);have Q3:=HQ.bb hb3;clear hb3 HB HQ HL;obtain⟨d0,d1,f0,f1,lt⟩:=Q3.o.two;have hBA:=Ft.o.alloc Ft.o.size (π #[Θ a n ca,Θ δ 0 0] 70);have qA:=bE.new W3 #[Θ a n ca,Θ δ 0 0] 70;have q6:=Q3.o.alloc (π #[Θ a n ca,Θ δ 0 0] 70);by_cases hk0:0 < k
   .have HPb:=zq (HP.o hk0);obtain⟨pz,oz,rfl, -⟩:=Rz.o 0 (by rw [Hz.o];exact hk0);have HZc:aQ (∀ W,Bw w W->W.cell? ⟨pz,oz,δ⟩=ζ (Δ (bs (zs.getD 0 [])))):=fun W hW=> by
     obtain⟨p',o',e1,h1⟩:=(Rz.o.below hW) 0 (by rw [Hz.o];exact hk0);injection e1 with e1;injection e1 with e1 e2;subst e1 e2;exact h1
    clear HP d0 d1 f0 f1 lt;generalize hZ:zs.getD 0 []=z0 at *;have HZe:=zq hZ;clear hZ;have Y9:=zq hBA;have QA:=zq qA;have Q6:=zq q6;have hlt3:w.heap.size < W3.heap.size:=Q3.o.lt;clear hBA qA q6 Ft Q3;go_wp2;obtain⟨G,hG⟩:=nm W3.heap.size;rw [hG] at QA hlt3 |-;obtain⟨WA,Uu⟩:=nm (W3.alloc (π #[Θ a n ca,Θ δ 0 0] 70));rw [Uu] at QA Q6 Y9 |-;clear hG Uu;go_loopw [52] (fun i wr=>∃ (j:Nat) (v:χ),i=Υ Ξ j/\j<=n/\aQ (Bw w wr)/\aQ (bE wr w.heap.size #[Θ δ 0 0,Θ δ 0 0] 70)/\aQ (bE wr G #[Θ a n ca,v] 70)/\aQ (wr.ownsRow (G+1) 29 1 v j (dQ ((dL fs z0).take j)))) (fun i _=>n - (ξ i).toNat);case atStart=>exact⟨0,_,rfl,aP _,Y9.o,Q6.o,QA.o,⟨by simp [dQ],.inl ⟨rfl,rfl⟩⟩⟩
    case round=>
     clear Y9 Q6 QA;obtain⟨j,v,rfl,hj,HB,Q6,QT,sS⟩:=hrel;by_cases hlt:j < n
     .obtain⟨b1,off,rfl,c0,c1,c2,c3,c4⟩:=(Rf.o.below HB.o).at (i:=j) (by rw [Hf.o];exact hlt) rfl;have HPj:=zq (HPb.o j hlt);have HTj:=zq (HT.o j hlt);have hzc:=HZc.o _ HB.o;have hbl:b1 < wr.heap.size:=aD wr ⟨b1,off+j * 5,δ⟩ c0;unfold Fr.v Fr.cells at HPj;generalize fs.getD j Γ=f at *;obtain⟨fup,fco,fdir,Ll,fst⟩:=f;simp only [] at *;generalize bs z0=Z,bs fst=FST,bs Ll=FSP,bs (J0 ⟨fup,fco,fdir,Ll,fst⟩ z0)=Y at *;have HBb:=zq (HB.o.alloc HB.o.size (π #[ω fup,Υ Ξ fco,Υ Ξ fdir,Δ FSP,Δ FST] 46));go_wp2;go_cut [14] (fun v W=>v=Δ Y/\aQ (Bw wr W));case first=>
       go_region_held3 (fun w'=>(w'.cell? ⟨wr.heap.size,0,δ⟩=ζ (ω fup)/\w'.cell? ⟨wr.heap.size,1,δ⟩=ζ (Υ Ξ fco)/\w'.cell? ⟨wr.heap.size,2,δ⟩=ζ (Υ Ξ fdir)/\w'.cell? ⟨wr.heap.size,3,δ⟩=ζ (Δ FSP)/\w'.cell? ⟨wr.heap.size,4,δ⟩=ζ (Δ FST))/\w'.cell? ⟨pz,oz,δ⟩=ζ (Δ Z)) (go_keep)
        (first
         | (go_at_call 61;with_reducible refine(HPj.o _ HBb.o.drew).mono ?_;rintro e w1 ⟨rfl,hb1⟩;have hBp:=zq ((nA wr _).drew.trans (hb1.mono sP));have:=ck hb1 wr.heap.size 0 (ω fup);have:=ck hb1 wr.heap.size 1 (Υ Ξ fco);have:=ck hb1 wr.heap.size 2 (Υ Ξ fdir);have:=ck hb1 wr.heap.size 3 (Δ FSP);have:=ck hb1 wr.heap.size 4 (Δ FST);have kz:=aY hb1 (p:=⟨pz,oz,δ⟩) (v:=Δ Z) (by simp [*])))
       go_wp2;go_meet;case rel=>exact⟨rfl,hBp.o⟩
      case rest=>
      obtain⟨rfl,Do⟩:=hcut;have wF:=zq (aW HB.o Do.o);have Q6:=zq (Q6.o.below Do.o Q6.o.lt);have bb4:=QT.o.lt;have QT:=zq (QT.o.below Do.o QT.o.lt);have Gt:=aR sS.o Do.o;have O6:G+1<=wc.heap.size:=aA bb4 Do.o.size;obtain⟨t0,t1,tf0,tf1,tl⟩:=QT.o.two;clear HB Do sS HPj HPb c0 c1 c2 c3 c4 hzc HBb bb4;go_wp2_with (at_builtin;refine bz0 rfl _ _ rfl (G+1) v j _ rfl Gt _ rfl oM O6 ?_;intro g1 Vc w1 Nk hg1 Vd;have hqg:=zq (QT.o.grown Vd (CL Gt oM));obtain⟨t0,t1,tf0,tf1,tl⟩:=hqg.o.two)
      have eU:=zq ((dT wF.o Vd Gt oM wF.o.size).setCell (p:=⟨G,1,δ⟩) (fM hlt3) (Θ (ζ ⟨g1,0,δ⟩) (j+1) Vc));have Q62:=zq ((Q6.o.grown Vd (CL Gt oM)).other (a:=⟨G,1,δ⟩) (Θ (ζ ⟨g1,0,δ⟩) (j+1) Vc) (by show w.heap.size≠G;omega));have QT2:=zq (hqg.o.set 1 (Θ (ζ ⟨g1,0,δ⟩) (j+1) Vc));rw [<- HTj.o] at Nk;have ae7:=zq (oF Nk (a:=⟨G,1,δ⟩) (by show G < G+1;omega) (Θ (ζ ⟨g1,0,δ⟩) (j+1) Vc));clear Gt Nk Vd t0 t1 tf0 tf1 tl hqg wF Q6 QT;go_wp2;go_roundw;case rel=>exact⟨j+1,_,by go_num,oM,eU.o,Q62.o,QT2.o,ae7.o⟩
      case measure=>simp only [ξ];omega
     .obtain rfl:n=j:=oM;obtain⟨t0,t1,tf0,tf1,tl⟩:=QT.o.two;obtain⟨d0,d1,f0,f1,lt⟩:=Q6.o.two;obtain⟨vb,vc,rfl⟩:∃ b c,v=Θ b n c:=by
       rcases sS.o.2 with ⟨h1,h2⟩ | ⟨g,cap,pZ,h1,_⟩
       .exact⟨δ,0,by rw [h1,h2]⟩
       .exact⟨_,_,h1⟩
      have hne:¬ w.heap.size=G:=oM;have bt8:¬ G=w.heap.size:=oM;go_wp2;refine cU (jC (T:=70) Tryz.results25 _ _ w.heap.size _ _ rfl ((Q6.o.set 0 _).set 1 _) isAgg70 sizeOf70) rfl ⟨⟨vb,n,vc,rfl,fun _=>⟨rfl,?_⟩⟩,(HB.o.setCell (θ _) _).setCell (θ _) _⟩;have aM6:=oF (oF sS.o (a:=⟨w.heap.size,0,δ⟩) (by show w.heap.size < G+1;omega) (Θ a n ca)) (a:=⟨w.heap.size,1,δ⟩) (by show w.heap.size < G+1;omega) (Θ vb n vc);rw [HLn.o] at aM6;rw [HZe.o];exact ae3 (Qy.own aM6)
   .have bm7:k=0:=oM;subst bm7;obtain⟨t0,t1,tf0,tf1,tl⟩:=qA.two;obtain⟨e00,e01,ef0,ef1,el⟩:=q6.two;have Q6:=zq q6;have Y9:=zq hBA;have hlz:zs.length=0:=Hz.o;have Hlz:=zq hlz;have hne:¬ w.heap.size=W3.heap.size:=Nat.ne_of_lt Q3.o.lt;clear hlz;go_wp2;exact cU (jC (T:=70) Tryz.results25 _ _ w.heap.size _ _ rfl (((Q3.o.set 0 _).set 1 _).alloc _) isAgg70 sizeOf70) rfl ⟨⟨δ,0,0,rfl,fun h=>absurd h (by rw [Hlz.o];decide)⟩,((Ft.o.setCell (θ _) _).setCell (θ _) _).alloc (by simp [Ft.o.size]) _⟩
def AH(fs:List Fr)(at':List (List UInt8))(p q:Pt):Bool:=
 if((fs.getD p.side.toNat Γ).up !=(fs.getD q.side.toNat Γ).up)=ι then
  (p.en==at'.getD q.side.toNat [])&&(q.fr==at'.getD p.side.toNat [])
 else((fs.getD p.side.toNat Γ).dir==(fs.getD q.side.toNat Γ).dir)&&(p.en==q.fr)&&(at'.getD p.side.toNat []==at'.getD q.side.toNat [])
theorem Nl(x y):((bs x).toList==(bs y).toList)=(x==y):=by
 rw[dM,dM,gL,gL]
def aR2(w W:η)(g h:Nat)(pc qc fc gc:Array χ):Prop:=
 bE W w.heap.size pc 35/\bE W (w.heap.size+1) qc 35/\bE W g fc 46/\bE W h gc 46/\Bw w W
theorem aR3(w pc qc fc gc):aR2 w ((((w.alloc (π pc 35)).alloc (π qc 35)).alloc (π fc 46)).alloc (π gc 46)) (w.heap.size+1+1) (w.heap.size+1+1+1) pc qc fc gc:=by
 refine⟨(((bE.new w _ _).alloc _).alloc _).alloc _,?_,?_,?_,(((nA w _).alloc sP _).alloc (by simp;omega) _).alloc (by simp;omega) _⟩
 .have:=bE.new (w.alloc (π pc 35)) qc 35;rw[aL]at this;exact(this.alloc _).alloc _
 .have:=bE.new ((w.alloc (π pc 35)).alloc (π qc 35)) fc 46;rw[aL,aL]at this;exact this.alloc _
 .have:=bE.new (((w.alloc (π pc 35)).alloc (π qc 35)).alloc (π fc 46)) gc 46;rwa[aL,aL,aL]at this
theorem bE.three{b:Nat}{x y z:χ}(h:bE W b #[x,y,z] T):W.cell? ⟨b,0,δ⟩=ζ x/\W.cell? ⟨b,1,δ⟩=ζ y/\W.cell? ⟨b,2,δ⟩=ζ z:=⟨h.cell 0,h.cell 1,h.cell 2⟩
section
attribute[local go_sem] eQ
abbrev WL:=List (Wy×Int)
abbrev SL:=List ((Int×Int)×Bool)
def rU(l:WL)(w:Wy):Int:=(mR l w).getD 0
def mW(I:SL)(x y:Int):Bool:=(mR I (x,y)).getD ν
structure iJ(W:η)(G:Nat)(xv yv:χ)(m2 m3 m4:Nat)(S N:WL)(I:SL):Prop where
 blk:bE W G #[xv,yv,.map (ζ m2),.map (ζ m3),.map (ζ m4)] 117
 s:W.heap[m2]? =ζ (mS kW vI S)
 n:W.heap[m3]? =ζ (mS kW vI N)
 i:W.heap[m4]? =ζ (mS kS vB I)
theorem tN{m:Nat}{o:Obj}(h:W.heap[m]? =ζ o)(hb:Bw W W'):W'.heap[m]? =ζ o:=(hb.block m (Array.getElem?_eq_some_iff.1 h).1).trans h
theorem iJ.below{S N:WL}{I:SL}(h:iJ W G xv yv m2 m3 m4 S N I)(hb:Bw W W'):iJ W' G xv yv m2 m3 m4 S N I:=
 ⟨h.blk.below hb h.blk.lt,tN h.s hb,tN h.n hb,tN h.i hb⟩
theorem iJ.cells{S N:WL}{I:SL}(h:iJ W G xv yv m2 m3 m4 S N I):W.cell? ⟨G,0,δ⟩=ζ xv/\W.cell? ⟨G,1,δ⟩=ζ yv/\W.cell? ⟨G,2,δ⟩=ζ (.map (ζ m2))/\W.cell? ⟨G,3,δ⟩=ζ (.map (ζ m3))/\W.cell? ⟨G,4,δ⟩=ζ (.map (ζ m4)):=
 ⟨h.blk.cell 0,h.blk.cell 1,h.blk.cell 2,h.blk.cell 3,h.blk.cell 4⟩
theorem ae8{b:Nat}{I:SL}(h:w.heap[b]? =ζ (mS kS vB I))(x y):(pT 115 (.map (ζ b)) (bQ #[Υ Ξ x,Υ Ξ y]) ν).run γ w=.ok (ω (mW I x y)) w:=
 Iu (zero:=ν) aM4 ab2 aM3 h (x,y) ν
theorem BM{w:η}{b:Nat}{S:WL}(h:w.heap[b]? =ζ (mS kW vI S))(x y:Int)(d:Nat):(pT 114 (.map (ζ b)) (bQ #[Υ Ξ x,Υ Ξ y,Υ Ξ d]) ν).run γ w=.ok (Υ Ξ (rU S ⟨x,y,d⟩)) w:=
 Iu (zero:=(0:Int)) Qp SN ab4 h ⟨x,y,d⟩ ν
theorem ae9{w:η}{b:Nat}{S:WL}(h:w.heap[b]? =ζ (mS kW vI S))(x y:Int)(d:Nat):(pT 114 (.map (ζ b)) (bQ #[Υ Ξ x,Υ Ξ y,Υ Ξ d]) ι).run γ w=.ok (bT #[Υ Ξ (rU S ⟨x,y,d⟩),ω (mR S ⟨x,y,d⟩).isSome]) w:=
 Iu (zero:=(0:Int)) Qp SN ab4 h ⟨x,y,d⟩ ι
theorem Ve(Bg BWv G xv yv m2 m3 m4 S N I x y d dx dy w)(hg:iJ w G xv yv m2 m3 m4 S N I)(hb:bE w Bg #[aB (ζ ⟨G,0,δ⟩)] 74)(hw:bE w BWv #[Υ Ξ x,Υ Ξ y,Υ Ξ d] 130)(hx:-1000000<=x/\x<=1000000)(hy:-1000000<=y/\y<=1000000)(hdx:-1<=dx/\dx<=1)(hdy:-1<=dy/\dy<=1):
 aE γ 121 #[bQ #[Υ Ξ dx,Υ Ξ dy],aB (ζ ⟨Bg,0,δ⟩),aB (ζ ⟨BWv,0,δ⟩)] w (Rt (ω (mW I (x+dx) (y+dy))) w):=by
 have fL:=nA w (π #[Υ Ξ dx,Υ Ξ dy] 128);have JU:=hg.below fL;have h4:=JU.i;have b1:=(hb.below fL hb.lt).cell 0;obtain⟨w0,w1,w2⟩:=(hw.below fL hw.lt).three;have g4:=JU.blk.cell 4;obtain⟨e0,e1,-,-,lT⟩:=(bE.new w #[Υ Ξ dx,Υ Ξ dy] 128).two;have gH:=zq fL;have wx:IntKind.i64.wrap (x+dx)=x+dx:=aM _ oM;have wy:IntKind.i64.wrap (y+dy)=y+dy:=aM _ oM;clear hg hb hw fL JU hx hy hdx hdy;obtain⟨W0,fI⟩:=nm (w.alloc (π #[Υ Ξ dx,Υ Ξ dy] 128));rw[fI]at gH e0 e1 lT b1 w0 w1 w2 g4 h4;have HL:=fun n p q=>ae8 (w:=W0.drewN n) h4 p q;simp only[bC,aU,cO]at b1 g4;generalize mW I=C at *;go_enter func121,ntmps121;go_upto_region 1 with(fail)
 try rw[fI]
 clear fI h4;go_quiet (fail)
 go_wp2;go_ret;exact⟨rfl,by first |exact gH.o|exact dO gH.o _⟩
theorem bb5(d:Nat)(hd:d<4):∃a b:Int,(∀W,fD γ (M4 181 (bQ #[Υ Ξ 0,Υ Ξ 0,Υ Ξ (-1),Υ Ξ 0,Υ Ξ (-1),Υ Ξ (-1),Υ Ξ 0,Υ Ξ (-1)]) (Υ Ξ d)) W=.ok (bQ #[Υ Ξ a,Υ Ξ b]) W)/\(-1<=a/\a<=1)/\(-1<=b/\b<=1)/\∀(c:Int->Int->Bool)x y,pv c x y d=c (x+a) (y+b):=
 match d,hd with
 |0,_=>⟨0,0,fun W=>by first |kernel_rfl|rfl,dD,dD,fun c x y=>by rw[mP,mP];rfl⟩
 |1,_=>⟨-1,0,fun W=>by first |kernel_rfl|rfl,dD,dD,fun c x y=>by rw[mP];rfl⟩
 |2,_=>⟨-1,-1,fun W=>by first |kernel_rfl|rfl,dD,dD,fun c x y=>rfl⟩
 |3,_=>⟨0,-1,fun W=>by first |kernel_rfl|rfl,dD,dD,fun c x y=>by rw[mP];rfl⟩
theorem bb6(d:Nat)(hd:d<4):∃a b:Int,(∀W,fD γ (M4 181 (bQ #[Υ Ξ 0,Υ Ξ (-1),Υ Ξ 0,Υ Ξ 0,Υ Ξ (-1),Υ Ξ 0,Υ Ξ (-1),Υ Ξ (-1)]) (Υ Ξ d)) W=.ok (bQ #[Υ Ξ a,Υ Ξ b]) W)/\(-1<=a/\a<=1)/\(-1<=b/\b<=1)/\∀(c:Int->Int->Bool)x y,rgt c x y d=c (x+a) (y+b):=
 match d,hd with
 |0,_=>⟨0,-1,fun W=>by first |kernel_rfl|rfl,dD,dD,fun c x y=>by rw[mP];rfl⟩
 |1,_=>⟨0,0,fun W=>by first |kernel_rfl|rfl,dD,dD,fun c x y=>by rw[mP,mP];rfl⟩
 |2,_=>⟨-1,0,fun W=>by first |kernel_rfl|rfl,dD,dD,fun c x y=>by rw[mP];rfl⟩
 |3,_=>⟨-1,-1,fun W=>by first |kernel_rfl|rfl,dD,dD,fun c x y=>rfl⟩
theorem Lm(G:Nat)(xv yv:χ)(m2 m3 m4:Nat)(S N:WL)(I:SL)(x y:Int)(d:Nat)(hd:d<4)(hx:-1000000<=x/\x<=1000000)(hy:-1000000<=y/\y<=1000000)(w:η)(hg:iJ w G xv yv m2 m3 m4 S N I):
 aE γ 69 #[aB (ζ ⟨G,0,δ⟩),bQ #[Υ Ξ x,Υ Ξ y,Υ Ξ d]] w (Rt (ω (bor (mW I) x y d)) w):=by
 have fL:=(nA w (π #[aB (ζ ⟨G,0,δ⟩)] 74)).alloc sP (π #[Υ Ξ x,Υ Ξ y,Υ Ξ d] 130);have Jt:=(bE.new w #[aB (ζ ⟨G,0,δ⟩)] 74).alloc (π #[Υ Ξ x,Υ Ξ y,Υ Ξ d] 130);have Yl:=bE.new (w.alloc (π #[aB (ζ ⟨G,0,δ⟩)] 74)) #[Υ Ξ x,Υ Ξ y,Υ Ξ d] 130;rw[aL]at Yl;obtain⟨W0,fI⟩:=nm ((w.alloc (π #[aB (ζ ⟨G,0,δ⟩)] 74)).alloc (π #[Υ Ξ x,Υ Ξ y,Υ Ξ d] 130));rw[fI]at fL Jt Yl;obtain⟨l1,l2,q1,Vf,DN,hL⟩:∃a b:Int,(∀W,fD γ (M4 181 (bQ #[Υ Ξ 0,Υ Ξ 0,Υ Ξ (-1),Υ Ξ 0,Υ Ξ (-1),Υ Ξ (-1),Υ Ξ 0,Υ Ξ (-1)]) (Υ Ξ d)) W=.ok (bQ #[Υ Ξ a,Υ Ξ b]) W)/\(-1<=a/\a<=1)/\(-1<=b/\b<=1)/\∀(c:Int->Int->Bool)x y,pv c x y d=c (x+a) (y+b):=bb5 d hd;obtain⟨r1,r2,q2,hr1,Pw,hR⟩:=bb6 d hd;have HI:aQ (∀dx dy W,Bw W0 W->-1<=dx/\dx<=1->-1<=dy/\dy<=1->aE γ 121 #[bQ #[Υ Ξ dx,Υ Ξ dy],aB (ζ ⟨w.heap.size,0,δ⟩),aB (ζ ⟨w.heap.size+1,0,δ⟩)] W (Rt (ω (mW I (x+dx) (y+dy))) W)):=fun dx dy W h h1 h2=>
  Ve _ _ G xv yv m2 m3 m4 S N I x y d dx dy W ((hg.below fL).below h) (Jt.below h Jt.lt) (Yl.below h Yl.lt) hx hy h1 h2
 have gH:=zq fL;have ER:aQ (bor (mW I) x y d=(mW I (x+l1) (y+l2)&& !mW I (x+r1) (y+r2))):=by show bor _ _ _ _=_;unfold bor;rw[hL,hR]
 have H1:=zq (fun W h=>HI.o l1 l2 W h Vf DN);have H2:=zq (fun W h=>HI.o r1 r2 W h hr1 Pw);clear HI;obtain⟨w0,w1,w2⟩:=Yl.three;have lT:=Yl.lt;clear hg fL Jt Yl hx hy hL hR Vf DN hr1 Pw;have hd0:(0:Int)<=d:=oM;have J5:(d:Int)<4:=oM;clear hd;generalize mW I (x+r1) (y+r2)=br,mW I (x+l1) (y+l2)=bl at *;go_enter func69,ntmps69;go_upto_if 8 with(fail);try rw[fI]
 clear fI;cases bl
 .go_wp2_with fail
  (with_reducible refine(H1.o _ ((nA W0 _).alloc sP _)).mono ?_);rintro e W1⟨rfl,hb1⟩;have eG:=zq (aW gH.o (((nA W0 _).alloc sP _).trans (hb1.mono (by simp;omega))));clear hb1;go_wp2;go_ret;exact⟨by rw[ER.o]<;>rfl,eG.o⟩
 .obtain⟨W1,tZ⟩:=nm ((W0.alloc (π #[Υ Ξ l1,Υ Ξ l2] 128)).alloc (π #[Υ Ξ r1,Υ Ξ r2] 128));have hb1:Bw W0 W1:=by rw[<-tZ];exact(nA W0 _).alloc sP _
  have q2:bE W1 (W0.heap.size+1) #[Υ Ξ r1,Υ Ξ r2] 128:=by
   rw[<-tZ];have:=bE.new (W0.alloc (π #[Υ Ξ l1,Υ Ξ l2] 128)) #[Υ Ξ r1,Υ Ξ r2] 128;rwa[aL]at this
  go_wp2_with fail
  (with_reducible refine(H1.o _ ((nA W0 _).alloc sP _)).mono ?_);rw[tZ];rintro e W2⟨rfl,hb2⟩;have HQ:=zq (q2.below hb2 q2.lt);have eG:=zq hb1;have eU:=zq (aW hb1 hb2);clear hb1 hb2 q2 tZ;obtain⟨e0,e1,-,-,lR⟩:=HQ.o.two;go_wp2_with fail
  (with_reducible refine(H2.o _ eU.o).mono ?_);rintro e W3⟨rfl,hb3⟩;have HB3:=zq (aW (aW gH.o eU.o) hb3);clear hb3;cases br
  .go_wp2;go_ret;exact⟨by rw[ER.o]<;>rfl,HB3.o⟩
  .go_wp2;go_ret;exact⟨by rw[ER.o]<;>rfl,HB3.o⟩
end
end
section
open Go Go.RowKit
section
variable{P:cQ}{cF:Array eZ}{Q:sG->iS->η->Prop}{md:gD}{S:η->Prop}
theorem tH(i){v:Value}{a:Act}{w:World}(hi:cF[i]? =some oi)(h:wpAnyH P md cF Q S fuel (jV.setIfInBounds i true) (a.put oi.dst v) w)(hs:Region.noSelect cF=true:=by kernel_rfl)(hf:Region.free md cF jV i=true:=by kernel_rfl)(hr:(Region.ready md cF jV).contains i=true:=by kernel_rfl)(hQ:∀c a w,Q (.panic c) (a.put oi.dst v) w->Q (.panic c) a w:=by exact fun _ _ _ h=>h)(hw:Region.wanted oi (yielded cF a.tmps)=true:=by kernel_rfl)(hy:∀w,S w->(execOp a.eval oi).run P w=.ok (.value v) w:=by(intro w hSw;(try dsimp only at hSw);go_simp;(first |done|with_reducible rfl)))(hS:S w:=by assumption):wpAnyH P md cF Q S (fuel+1) jV a w:=
 wpAnyH_take hi hs hf hr hQ (.inl ⟨hw,hy⟩) hS h
theorem sH(i){a:Act}{w:World}(hi:cF[i]? =some oi)(h:wpAnyH P md cF Q S fuel (jV.setIfInBounds i true) (a.put oi.dst undef) w)(hs:Region.noSelect cF=true:=by kernel_rfl)(hf:Region.free md cF jV i=true:=by kernel_rfl)(hr:(Region.ready md cF jV).contains i=true:=by kernel_rfl)(hQ:∀c a w,Q (.panic c) (a.put oi.dst undef) w->Q (.panic c) a w:=by exact fun _ _ _ h=>h)(hw:Region.wanted oi (yielded cF a.tmps)=false:=by kernel_rfl)(hS:S w:=by assumption):wpAnyH P md cF Q S (fuel+1) jV a w:=
 wpAnyH_take hi hs hf hr hQ (.inr ⟨hw,rfl⟩) hS h
variable{F:Jy}{n:Nat}
theorem tI(i){v:Value}{a:Act}{w:World}(hi:cF[i]? =some oi)(h:wpAnyIn F n P md cF Q fuel (jV.setIfInBounds i true) (a.put oi.dst v) w)(hro:F.round=none:=by rfl)(hs:Region.noSelect cF=true:=by kernel_rfl)(hf:Region.free md cF jV i=true:=by kernel_rfl)(hr:(Region.ready md cF jV).contains i=true:=by kernel_rfl)(hQ:∀c a w,Q (.panic c) (a.put oi.dst v) w->Q (.panic c) a w:=by exact fun _ _ _ h=>h)(hw:Region.wanted oi (yielded cF a.tmps)=true:=by rfl)(hy:∀w,(execOp a.eval oi).run P w=.ok (.value v) w:=by(intro w;go_simp;(first |done|with_reducible rfl)))(hb:∀w,oi.about P w a.eval=none:=by exact fun _=>rfl):wpAnyIn F n P md cF Q (fuel+1) jV a w:=
 wpAnyIn_take hro hi hs hf hr hQ ⟨.inl ⟨hw,hy⟩,hb⟩ h
theorem eI(i rs){a:Act}{w:World}{o:Oper}(ho:cF[i]? =some o)(h:∀K':Act->World->Prop,(∀a w,wpAnyIn F n P md cF Q fuel (jV.setIfInBounds i true) a w->K' a w)->if Region.wanted o (yielded cF a.tmps)=true then Oper.wpIn F n P o a w K' Q else(∀f,o.about P w a.eval=some f->F.fn f)/\K' (a.put o.dst undef) w)(hs:AllReadyIn F n P md cF Q fuel jV a w rs)(hr:Region.ready md cF jV=i::rs:=by kernel_rfl):wpAnyIn F n P md cF Q (fuel+1) jV a w:=
 wpAnyIn_ready hr sP (AllReadyIn.cons ho h hs)
end
end
section
open Go Go.RowKit Go.Lib
def J6(w W:η)(g h:Nat)(tc pc qc fc gc:Array χ):Prop:=
 bE W w.heap.size tc 70/\bE W (w.heap.size+1) pc 35/\bE W (w.heap.size+1+1) qc 35/\bE W g fc 46/\bE W h gc 46/\Bw w W
theorem gn(w tc pc qc fc gc):J6 w (((((w.alloc (π tc 70)).alloc (π pc 35)).alloc (π qc 35)).alloc (π fc 46)).alloc (π gc 46)) (w.heap.size+1+1+1) (w.heap.size+1+1+1+1) tc pc qc fc gc:=by
 obtain⟨a,b,c,d,e⟩:=aR3 (w.alloc (π tc 70)) pc qc fc gc;rw[aL]at a b c d;exact⟨((((bE.new w _ _).alloc _).alloc _).alloc _).alloc _,a,b,c,d,(nA w _).trans (e.mono sP)⟩
theorem az3(w tc pc qc fc gc):J6 w (((((w.alloc (π tc 70)).alloc (π pc 35)).alloc (π qc 35)).alloc (π gc 46)).alloc (π fc 46)) (w.heap.size+1+1+1+1) (w.heap.size+1+1+1) tc pc qc fc gc:=by
 obtain⟨a,b,c,d,e,f⟩:=gn w tc pc qc gc fc;exact⟨a,b,c,e,d,f⟩
theorem J6.drew{g h:Nat}{tc pc qc fc gc:Array χ}(k:J6 w W g h tc pc qc fc gc):J6 w W.drew g h tc pc qc fc gc:=⟨k.1,k.2.1,k.2.2.1,k.2.2.2.1,k.2.2.2.2.1,k.2.2.2.2.2.drew⟩
theorem af0{f g:Fr}(hf:f.dir=1\/f.dir= -1)(hg:g.dir=1\/g.dir= -1)(hu:f.up=g.up):(qJ f==qJ g)=(f.dir==g.dir):=by
 unfold qJ;rw[hu];cases g.up<;>rcases hf with e|e<;>rcases hg with e2|e2<;>rw[e,e2]<;>decide
theorem qz(a b:Option bW)(n ca cb:Nat)(fs:List Fr)(at':List (List UInt8))(p q:Pt)(s t:Nat)(w:η)
 (hdir:∀f∈fs,f.dir=1\/f.dir= -1)(hs:p.side=s)(ht:q.side=t)(Jv:s<n)(FU:t<n)(hf:fs.length=n)(hl:at'.length=n)(rf:yA w a fs)(ra:Al w b at')(hJ:AH fs at' p q=ι):
 aE γ 114 #[bQ #[Θ a n ca,Θ b n cb],p.v,q.v] w (Rt (ω ι) w):=by
 obtain⟨b1,o1,rfl,c0,c1,c2,c3,c4⟩:=rf.at (i:=s) oM rfl;obtain⟨b1',o1',e1,d0,d1,d2,d3,d4⟩:=rf.at (i:=t) oM rfl;injection e1 with e1;injection e1 with e1 e2;subst e1 e2;obtain⟨b2,o2,rfl,k0⟩:=ra s oM;obtain⟨b2',o2',e1,k1⟩:=ra t oM;injection e1 with e1;injection e1 with e1 e2;subst e1 e2;obtain⟨ps,pf,pt⟩:=p;obtain⟨qs,qf,qt⟩:=q;obtain rfl:ps=s:=hs;obtain rfl:qs=t:=ht;have R:aQ (ι=if((fs.getD s Γ).up !=(fs.getD t Γ).up)=ι then(pt==at'.getD t [])&&(qf==at'.getD s [])
  else((fs.getD s Γ).dir==(fs.getD t Γ).dir)&&(pt==qf)&&(at'.getD s []==at'.getD t [])):=hJ.symm
 clear hJ;have l1:b1<w.heap.size:=aD w ⟨b1,o1+s*5,δ⟩ c0;have l2:b2<w.heap.size:=aD w ⟨b2,o2+s,δ⟩ k0;have u1:∀k,b1<w.heap.size+k:=fun k=>oM;have u2:∀k,b2<w.heap.size+k:=fun k=>oM;have v1:∀k,¬b1=w.heap.size+k:=fun k=>oM;have v2:∀k,¬b2=w.heap.size+k:=fun k=>oM;have v3:¬b1=w.heap.size:=oM;have v4:¬b2=w.heap.size:=oM;have hdf:=hdir _ (aN (by rw[hf];exact Jv) Γ);have hdg:=hdir _ (aN (by rw[hf];exact FU) Γ);clear hdir;rw[<-Nl pt,<-Nl qf,<-Nl pt,<-Nl (at'.getD s [])]at R;generalize fs.getD t Γ=g,fs.getD s Γ=f at *;unfold Pt.v Pt.cells;simp only[];generalize bs qt=QT,bs qf=QF,bs pt=PT,bs pf=PF,bs (at'.getD t [])=At,bs (at'.getD s [])=As at *;have Yk:=zq (fun W=>uU f W);have Pu:=zq (fun W=>uU g W);have HDD:aQ (f.up=g.up->(qJ f==qJ g)=(f.dir==g.dir)):=af0 hdf hdg;clear hdf hdg;generalize qJ g=D2,qJ f=D1 at *;unfold Fr.v Fr.cells at Yk Pu;obtain⟨fup,fco,fdir,Ll,fst⟩:=f;obtain⟨O7,re,IL,gsp,gst⟩:=g;simp only[]at *;generalize bs gst=GST,bs gsp=GSP,bs fst=FST,bs Ll=FSP at *;obtain⟨x1,hx1⟩:=nm ((PT.toList==At.toList));obtain⟨x2,J7⟩:=nm ((QF.toList==As.toList));obtain⟨x3,hx3⟩:=nm ((PT.toList==QF.toList));obtain⟨x4,hx4⟩:=nm ((As.toList==At.toList));obtain⟨x5,hx5⟩:=nm ((fdir==IL));rw[hx1,J7,hx3,hx4,hx5]at R;clear rf ra hf hl;go_enter func114,ntmps114;go_upto_region 1 with fail
 go_cut[7,8] (fun x y W=>∃g h:Nat,x=aB (ζ ⟨g,0,δ⟩)/\y=aB (ζ ⟨h,0,δ⟩)/\aQ (J6 w W g h (#[Θ (ζ ⟨b1,o1,δ⟩) n ca,Θ (ζ ⟨b2,o2,δ⟩) n cb]) (#[Υ Ξ s,Δ PF,Δ PT]) (#[Υ Ξ t,Δ QF,Δ QT]) (#[ω fup,Υ Ξ fco,Υ Ξ fdir,Δ FSP,Δ FST]) (#[ω O7,Υ Ξ re,Υ Ξ IL,Δ GSP,Δ GST])));case first =>
  as_aux_lemma=>
   go_region;all_goals
    go_wp2;go_meet;case rel=>first |exact⟨_,_,rfl,rfl,(gn _ _ _ _ _ _).drew⟩|exact⟨_,_,rfl,rfl,(az3 _ _ _ _ _ _).drew⟩
 case rest=>
 obtain⟨g',h',rfl,rfl,HJ⟩:=hcut;have hB:=zq HJ.o.2.2.2.2.2;have t0:=HJ.o.1.ce 0;have t1:=HJ.o.1.ce 1;obtain⟨p0,p1,p2⟩:=HJ.o.2.1.three;obtain⟨q0,q1,q2⟩:=HJ.o.2.2.1.three;obtain⟨f0,f1,f2,f3,f4⟩:=HJ.o.2.2.2.1.front;obtain⟨g0,g1,g2,g3,g4⟩:=HJ.o.2.2.2.2.1.front;have c0:=aY hB.o k0;have c1:=aY hB.o k1;clear k0 k1 u1 u2 v1 v2 v3 v4 l1 l2;cases hu:(fup !=O7);case true=>
  obtain⟨rfl,rfl⟩:x1=ι/\x2=ι:=by
   have:=R.o;rw[hu,ip rfl]at this;simpa using this.symm
  have hv:(!fup==O7)=ι:=by rw[<-hu];cases fup<;>cases O7<;>rfl
  clear R hx3 hx4 hx5;go_wp2;go_quiet (fail)
  go_wp2;go_ret;exact⟨by first |rfl|(simp;done),dO hB.o _⟩
 case false=>
  obtain⟨⟨rfl,rfl⟩,rfl⟩:(x5=ι/\x3=ι)/\x4=ι:=by
   have:=R.o;rw[hu,iN dD]at this;simpa using this.symm
  have hv:(!fup==O7)=ν:=by rw[<-hu];cases fup<;>cases O7<;>rfl
  have hdd:(D1==D2)=ι:=by rw[<-hx5];exact HDD.o (by simpa using hu)
  clear R hx5 hx1 J7;go_wp2;refine wp_region_held_drew (S:=fun w'=>(w'.cell? ⟨g',0,δ⟩=ζ (ω fup)/\w'.cell? ⟨g',1,δ⟩=ζ (Υ Ξ fco)/\w'.cell? ⟨g',2,δ⟩=ζ (Υ Ξ fdir)/\w'.cell? ⟨g',3,δ⟩=ζ (Δ FSP)/\w'.cell? ⟨g',4,δ⟩=ζ (Δ FST))/\(w'.cell? ⟨h',0,δ⟩=ζ (ω O7)/\w'.cell? ⟨h',1,δ⟩=ζ (Υ Ξ re)/\w'.cell? ⟨h',2,δ⟩=ζ (Υ Ξ IL)/\w'.cell? ⟨h',3,δ⟩=ζ (Δ GSP)/\w'.cell? ⟨h',4,δ⟩=ζ (Δ GST))/\(w'.cell? ⟨w.heap.size,0,δ⟩=ζ (Θ (ζ ⟨b1,o1,δ⟩) n ca)/\w'.cell? ⟨w.heap.size,1,δ⟩=ζ (Θ (ζ ⟨b2,o2,δ⟩) n cb))/\(w'.cell? ⟨w.heap.size+1,0,δ⟩=ζ (Υ Ξ s)/\w'.cell? ⟨w.heap.size+1,1,δ⟩=ζ (Δ PF)/\w'.cell? ⟨w.heap.size+1,2,δ⟩=ζ (Δ PT))/\(w'.cell? ⟨w.heap.size+1+1,0,δ⟩=ζ (Υ Ξ t)/\w'.cell? ⟨w.heap.size+1+1,1,δ⟩=ζ (Δ QF)/\w'.cell? ⟨w.heap.size+1+1,2,δ⟩=ζ (Δ QT))/\w'.cell? ⟨b2,o2+s,δ⟩=ζ (Δ As)/\w'.cell? ⟨b2,o2+t,δ⟩=ζ (Δ At)) kF ?_ (fun iW=>?_)
  . (try dsimp only);go_keep
  refine tH 0 rfl ?_;refine tH 2 rfl ?_;refine pu ?_;refine eM (rs:=[1]) kF sP ?_;refine cP rfl (fun K hK=>?_) dH;go_simp;with_reducible refine(Yk.o _).mono ?_
  rintro e w1⟨rfl,hb1⟩;have bm8:=zq (aW hB.o.drew hb1);have:=ck hb1 g' 0 (ω fup);have:=ck hb1 g' 1 (Υ Ξ fco);have:=ck hb1 g' 2 (Υ Ξ fdir);have:=ck hb1 g' 3 (Δ FSP);have:=ck hb1 g' 4 (Δ FST);have:=ck hb1 h' 0 (ω O7);have:=ck hb1 h' 1 (Υ Ξ re);have:=ck hb1 h' 2 (Υ Ξ IL);have:=ck hb1 h' 3 (Δ GSP);have:=ck hb1 h' 4 (Δ GST);have:=ck hb1 w.heap.size 0 (Θ (ζ ⟨b1,o1,δ⟩) n ca);have:=ck hb1 w.heap.size 1 (Θ (ζ ⟨b2,o2,δ⟩) n cb);have:=ck hb1 (w.heap.size+1) 0 (Υ Ξ s);have:=ck hb1 (w.heap.size+1) 1 (Δ PF);have:=ck hb1 (w.heap.size+1) 2 (Δ PT);have:=ck hb1 (w.heap.size+1+1) 0 (Υ Ξ t);have:=ck hb1 (w.heap.size+1+1) 1 (Δ QF);have:=ck hb1 (w.heap.size+1+1) 2 (Δ QT);have ka:=aY hb1 (p:=⟨b2,o2+s,δ⟩) (v:=Δ As) (by simp[*]);have kb:=aY hb1 (p:=⟨b2,o2+t,δ⟩) (v:=Δ At) (by simp[*]);show K _ _;refine hK.o _ _ ?_ (fun iW=>?_)
  . (try dsimp only);go_keep
  clear hK K;refine pu ?_;refine eM (rs:=[3]) kF sP ?_;refine cP rfl (fun K hK=>?_) dH;go_simp;with_reducible refine(Pu.o _).mono ?_
  rintro e w2⟨rfl,hb2⟩;have bm9:=bm8.bS hb2;have:=ck hb2 g' 0 (ω fup);have:=ck hb2 g' 1 (Υ Ξ fco);have:=ck hb2 g' 2 (Υ Ξ fdir);have:=ck hb2 g' 3 (Δ FSP);have:=ck hb2 g' 4 (Δ FST);have:=ck hb2 h' 0 (ω O7);have:=ck hb2 h' 1 (Υ Ξ re);have:=ck hb2 h' 2 (Υ Ξ IL);have:=ck hb2 h' 3 (Δ GSP);have:=ck hb2 h' 4 (Δ GST);have:=ck hb2 w.heap.size 0 (Θ (ζ ⟨b1,o1,δ⟩) n ca);have:=ck hb2 w.heap.size 1 (Θ (ζ ⟨b2,o2,δ⟩) n cb);have:=ck hb2 (w.heap.size+1) 0 (Υ Ξ s);have:=ck hb2 (w.heap.size+1) 1 (Δ PF);have:=ck hb2 (w.heap.size+1) 2 (Δ PT);have:=ck hb2 (w.heap.size+1+1) 0 (Υ Ξ t);have:=ck hb2 (w.heap.size+1+1) 1 (Δ QF);have:=ck hb2 (w.heap.size+1+1) 2 (Δ QT);have ka:=aY hb2 (p:=⟨b2,o2+s,δ⟩) (v:=Δ As) (by simp[*]);have kb:=aY hb2 (p:=⟨b2,o2+t,δ⟩) (v:=Δ At) (by simp[*]);show K _ _;refine hK.o _ _ ?_ (fun iW=>?_)
  . (try dsimp only);go_keep
  clear hK K;refine tH 4 rfl ?_;refine tH 5 rfl ?_;refine tH 6 rfl ?_;refine tH 7 rfl ?_;refine tH 8 rfl ?_;refine tH 9 rfl ?_;refine tH 10 rfl ?_;refine tH 11 rfl ?_;refine tH 12 rfl ?_;refine tH 13 rfl ?_;refine tH 14 rfl ?_;refine tH 15 rfl ?_;refine tH 16 rfl ?_;refine tH 17 rfl ?_;refine tH 18 rfl ?_;refine tH 19 rfl ?_;refine tH 20 rfl ?_;refine tH 21 rfl ?_;refine tH 22 rfl ?_;refine tH 23 rfl ?_;refine tH 24 rfl ?_;refine tH 25 rfl ?_;refine tH 26 rfl ?_;refine tH 27 rfl ?_;refine pu ?_;refine wpAnyH_done kF ?_ _;go_wp2;go_ret;exact⟨by first |rfl|(simp;done),bm9.o⟩
def uA(fs:List Fr)(p:Pt):Int:=(fQ p.en p.fr).1*GP (fs.getD p.side.toNat Γ)
def BN(fs:List Fr)(right:Bool)(p:Pt):Bool:=
 decide (0<=p.side)&&decide (p.side<fs.length)&&(!decide (uA fs p<0)&& !(right &&decide (uA fs p=0)))
def Za (fs:List Fr) (right:Bool) (ps:List Pt):Nat->Bool:=fun i=>!BN fs right (ps.getD i Γ)
def Zb(fs:List Fr)(at':List (List UInt8))(ps:List Pt):Nat->Bool:=fun i=>!AH fs at' (ps.getD i Γ) (ps.getD ((i+1)%ps.length) Γ)
def oH(fs:List Fr)(at':List (List UInt8))(ps:List Pt)(right:Bool):Bool:=
 decide (4<=ps.length)&& !anyN (Za fs right ps) ps.length&& !anyN (Zb fs at' ps) ps.length
theorem J8{fs:List Fr}{right:Bool}{ps:List Pt}{n:Nat}(h:anyN (Za fs right ps) n=ν)(hi:i < n):BN fs right (ps.getD i Γ)=ι:=by
 have:=bJ.1 h i hi;unfold Za at this;simpa using this
theorem GQ{fs:List Fr}{right:Bool}{p:Pt}(h:BN fs right p=ι):∃s:Nat,p.side=s/\s<fs.length:=by
 unfold BN at h;simp only[aI,decide_eq_true_eq]at h;exact⟨p.side.toNat,oM,oM⟩
theorem af1(s t):-1<=(fQ s t).1/\(fQ s t).1<=1:=by
 unfold fQ;split
 .split
  .rcases CV (bZ s) (bZ t)with⟨_,h⟩|⟨_,h⟩|⟨_,h⟩<;>simp[h]
  .simp
 .simp
theorem az4{f:Fr}(h:f.dir=1\/f.dir= -1):GP f=1\/GP f= -1:=by
 unfold GP;cases f.up<;>rcases h with e|e<;>simp[e]
theorem gp{fs:List Fr}(hdir:∀f∈fs,f.dir=1\/f.dir= -1){p:Pt}{s:Nat}(hs:p.side=s)(Jv:s<fs.length):-1<=uA fs p/\uA fs p<=1:=by
 unfold uA;have h1:=af1 p.en p.fr;have h2:=az4 (hdir _ (aN (i:=p.side.toNat) oM Γ));generalize(fQ p.en p.fr).1=c at *;rcases h2 with e|e<;>rw[e]<;>omega
theorem Vg{n:Nat}(h:k<n):(k+1<n/\(k+1)%n=k+1)\/(k+1=n/\(k+1)%n=0):=by
 by_cases e:k+1<n
 .exact .inl ⟨e,aT e⟩
 .have:k+1=n:=oM;exact .inr ⟨this,by rw[this];exact mY n⟩
theorem J9(k n:Nat):((k:Int)+1).tmod (n:Int)=(((k+1)%n:Nat):Int):=by
 rw[kO oM];push_cast;rfl
theorem af2(a b c nf n ca cb cc fs at' ps right w)(hE:mV w)(hf:fs.length=nf)(hl:at'.length=nf)(hp:ps.length=n)(hn:n<=96)(hdir:∀ f∈fs,f.dir=1\/f.dir= -1)(lI:∀ p∈ps,Sm p.fr/\Sm p.en)(rf:yA w a fs)(ra:Al w b at')(rp:Ih w c ps)(hw:oH fs at' ps right=ι):
 aE γ 63 #[bQ #[Θ a nf ca,Θ b nf cb],Θ c n cc,ω right] w (Rt (ω ι) w):=by
 obtain⟨h4,hpb,hjb⟩:4<=n/\(∀ i,i < n->BN fs right (ps.getD i Γ)=ι)/\∀ i,i < n->AH fs at' (ps.getD i Γ) (ps.getD ((i+1) % n) Γ)=ι:=by
  unfold oH at hw;rw [aI,aI,decide_eq_true_eq,bX,bX,hp] at hw;refine⟨hw.1.1,fun i hi=>J8 hw.1.2 hi,fun i hi=>?_⟩;have:=bJ.1 hw.2 i hi;unfold Zb at this;rw [hp] at this;simpa using this
 have HS:aQ (∀ s:List UInt8,Sm s->∀ W,Bw w W->aE γ 44 #[Δ (bs s)] W (Rt (Υ Ξ 0) W)):=fun s hs W h=>by
  have:=IJ s W (hE.below h) hs;rwa [hs.num] at this
 have HO:=zq (fun (s t:List UInt8) (hs:Sm s) (ht:Sm t) W (h:Bw w W)=>nK s t W (hE.below h) hs ht);have HT:aQ (∀ i,i < nf->∀ W,aE γ 42 #[Υ Ξ (qJ (fs.getD i Γ))] W (Rt (Υ Ξ (GP (fs.getD i Γ))) W)):=fun i hi W=>by
  have:=QG (qJ (fs.getD i Γ)) W;rw [gk (hdir _ (aN (by rw [hf];exact hi) Γ))] at this;refine this.mono ?_;rintro e w' ⟨h1,rfl⟩;exact⟨h1,μ _ _⟩
 have HJ:aQ (∀ p q:Pt,(∃ s:Nat,p.side=s/\s < nf)->(∃ s:Nat,q.side=s/\s < nf)->AH fs at' p q=ι->∀ W,Bw w W->aE γ 114 #[bQ #[Θ a nf ca,Θ b nf cb],p.v,q.v] W (Rt (ω ι) W)):=by
  rintro p q ⟨s,hs,Jv⟩ ⟨t,ht,FU⟩ hj W h;exact qz a b nf ca cb fs at' p q s t W hdir hs ht Jv FU hf hl (rf.below h) (ra.below h) hj
 have HA:aQ (∀ p:Pt,∀ s:Nat,p.side=s->s < nf-> -1<=uA fs p/\uA fs p<=1):=fun p s hs Jv=>gp hdir hs (by rw [hf];exact Jv);have Hf:=zq hf;have Hp:=zq hp;have Rf:=zq rf;have Rp:=zq rp;have Hps:aQ (∀ i,i < n->Sm (ps.getD i Γ).fr/\Sm (ps.getD i Γ).en):=fun i hi=>lI _ (aN (by rw [hp];exact hi) Γ);have Hpb:=zq hpb;have Hjb:=zq hjb;have R5:aQ (∀ i,i < n->∃ s:Nat,(ps.getD i Γ).side=s/\s < nf):=fun i hi=>by
  have:=GQ (hpb i hi);rwa [hf] at this
 have T0:=zq (bE.new w #[Θ a nf ca,Θ b nf cb] 70);have BT:=zq (nA w (π #[Θ a nf ca,Θ b nf cb] 70));clear hE hf hl hp hdir lI rf ra rp hw hpb hjb;go_enter func63,ntmps63;go_wp2;go_loopw [17] (fun i wr=>∃ k:Nat,i=Υ Ξ k/\k<=n/\aQ (Bw w wr)/\aQ (bE wr w.heap.size #[Θ a nf ca,Θ b nf cb] 70)) (fun i _=>n - (ξ i).toNat);case atStart=>exact⟨0,rfl,aP _,BT.o,T0.o⟩
 case round=>
  clear BT T0;obtain⟨k,rfl,hk,HB,Ka⟩:=hrel;by_cases hlt:k < n
  .obtain⟨pb,po,rfl,c0,c1,c2⟩:=(Rp.o.below HB.o).at (i:=k) (by rw [Hp.o];exact hlt) rfl;have hlen:=Hps.o k hlt;have HBb:=zq (fun (x:Pt)=>HB.o.alloc HB.o.size (π #[Υ Ξ x.side,Δ (bs x.fr),Δ (bs x.en)] 35));obtain⟨s,BO,Jv⟩:=R5.o k hlt;have hAb:=HA.o (ps.getD k Γ) s BO Jv;have HPa:aQ (¬ uA fs (ps.getD k Γ) < 0/\(right=ι->¬ uA fs (ps.getD k Γ)=0)):=by
    have:=Hpb.o k hlt;unfold BN at this;simp only [aI,bX,decide_eq_false_iff_not,Bool.and_eq_false_iff] at this;exact⟨this.2.1,fun hr=>this.2.2.resolve_left (by rw [hr];decide)⟩
   generalize ps.getD k Γ=p at *;have HBp:=zq (HBb.o p);have qb:=bE.new wr #[Υ Ξ p.side,Δ (bs p.fr),Δ (bs p.en)] 35;have Qb:=zq qb;clear HBb qb;have Hc:=zq (HO.o p.en p.fr hlen.2 hlen.1);have HSf:=zq (HS.o p.fr hlen.1);have HSe:=zq (HS.o p.en hlen.2);have HAd:aQ (uA fs p=(fQ p.en p.fr).1 * GP (fs.getD p.side.toNat Γ)):=rfl;rw [BO] at HAd;generalize (fQ p.en p.fr).1=CC,uA fs p=AD at *;clear hlen;obtain⟨side,fr,en⟩:=p;simp only [] at *;subst BO;generalize bs en=EN,bs fr=FR at *;obtain⟨t0,t1,-,-,tl⟩:=Ka.o.two;have g1:¬ (s:Int) < 0:=oM;have g2:¬ (nf:Int)<=(s:Int):=oM;go_wp2_with fail
   with_reducible refine(HSf.o _ HBp.o).mono ?_
   rintro e W1 ⟨rfl,hb1⟩;have eG:=HBp.bS hb1;have Q1:=Qb.bb hb1;have Zc:=zq ((Ka.o.alloc (π #[Υ Ξ s,Δ FR,Δ EN] 35)).below hb1 (Ka.o.alloc _).lt);obtain⟨e0,e1,e2⟩:=Q1.o.three;obtain⟨t0,t1,-,-,tl⟩:=Zc.o.two;have el:=Q1.o.lt;clear hb1 HSf;go_wp2_with fail
   with_reducible refine(HSe.o _ eG.o).mono ?_
   rintro e W2 ⟨rfl,hb2⟩;have eU:=eG.bS hb2;have Q2:=Q1.bb hb2;have az5:=Zc.bb hb2;rw [show((s:Int)).toNat=s from rfl] at HAd;have HFs:aQ (∀ W,aE γ 31 #[(fs.getD s Γ).v] W (Rt (Υ Ξ (qJ (fs.getD s Γ))) W)):=fun W=>uU _ W;have HTs:=zq (HT.o s Jv);obtain⟨fb,fo,rfl,f0,f1,f2,f3,f4⟩:=(Rf.o.below eU.o).at (i:=s) (by rw [Hf.o];exact Jv) rfl;unfold Fr.v Fr.cells at HFs;generalize fs.getD s Γ=f at *;generalize qJ f=DF,GP f=FW at *;obtain⟨fup,fco,fdir,Ll,fst⟩:=f;simp only [] at *;generalize bs fst=FST,bs Ll=FSP at *;obtain⟨e0,e1,e2⟩:=Q2.o.three;obtain⟨t0,t1,-,-,tl⟩:=az5.o.two;have el:=Q2.o.lt;have hw:IntKind.i64.wrap (CC * FW)=AD:=by rw [<- HAd.o];exact aM _ oM
   clear hb2 HSe HAd eG Q1 Q2 Qb HBp Ka Zc g1 g2;go_wp2;go_cut [9] (fun v W=>v=Υ Ξ AD/\aQ (Bw W2 W));case first=>
    go_region_held3 (fun w'=>(w'.cell? ⟨wr.heap.size,0,δ⟩=ζ (Υ Ξ s)/\w'.cell? ⟨wr.heap.size,1,δ⟩=ζ (Δ FR)/\w'.cell? ⟨wr.heap.size,2,δ⟩=ζ (Δ EN))/\(w'.cell? ⟨w.heap.size,0,δ⟩=ζ (Θ (ζ ⟨fb,fo,δ⟩) nf ca)/\w'.cell? ⟨w.heap.size,1,δ⟩=ζ (Θ b nf cb))/\w'.cell? ⟨fb,fo+s * 5,δ⟩=ζ (ω fup)/\w'.cell? ⟨fb,fo+s * 5+1,δ⟩=ζ (Υ Ξ fco)/\w'.cell? ⟨fb,fo+s * 5+2,δ⟩=ζ (Υ Ξ fdir)/\w'.cell? ⟨fb,fo+s * 5+3,δ⟩=ζ (Δ FSP)/\w'.cell? ⟨fb,fo+s * 5+4,δ⟩=ζ (Δ FST)) (go_keep)
     (first
      | (go_at_call 37;with_reducible refine(Hc.o _ (by first | exact eU.o.drew | exact aW eU.o hBt.o | exact aW eU.o hBf.o)).mono ?_;rintro e w1 ⟨rfl,hb1⟩;have hBo:=zq (aW (by first | exact hBt.o | exact hBf.o | exact(μ _ W2).drew) hb1);have:=ck hb1 wr.heap.size 0 (Υ Ξ s);have:=ck hb1 wr.heap.size 1 (Δ FR);have:=ck hb1 wr.heap.size 2 (Δ EN);have:=ck hb1 w.heap.size 0 (Θ (ζ ⟨fb,fo,δ⟩) nf ca);have:=ck hb1 w.heap.size 1 (Θ b nf cb);have m0:=aY hb1 (p:=⟨fb,fo+s * 5,δ⟩) (v:=ω fup) (by simp [*]);have m1:=aY hb1 (p:=⟨fb,fo+s * 5+1,δ⟩) (v:=Υ Ξ fco) (by simp [*]);have m2:=aY hb1 (p:=⟨fb,fo+s * 5+2,δ⟩) (v:=Υ Ξ fdir) (by simp [*]);have m3:=aY hb1 (p:=⟨fb,fo+s * 5+3,δ⟩) (v:=Δ FSP) (by simp [*]);have m4:=aY hb1 (p:=⟨fb,fo+s * 5+4,δ⟩) (v:=Δ FST) (by simp [*]))
      | (go_at_call 31;with_reducible refine(HFs.o _).mono ?_;rintro e w1 ⟨rfl,hb1⟩;have hBf:=zq (aW (by first | exact hBo.o | exact(μ _ W2).drew) hb1);have:=ck hb1 wr.heap.size 0 (Υ Ξ s);have:=ck hb1 wr.heap.size 1 (Δ FR);have:=ck hb1 wr.heap.size 2 (Δ EN);have:=ck hb1 w.heap.size 0 (Θ (ζ ⟨fb,fo,δ⟩) nf ca);have:=ck hb1 w.heap.size 1 (Θ b nf cb);have m0:=aY hb1 (p:=⟨fb,fo+s * 5,δ⟩) (v:=ω fup) (by simp [*]);have m1:=aY hb1 (p:=⟨fb,fo+s * 5+1,δ⟩) (v:=Υ Ξ fco) (by simp [*]);have m2:=aY hb1 (p:=⟨fb,fo+s * 5+2,δ⟩) (v:=Υ Ξ fdir) (by simp [*]);have m3:=aY hb1 (p:=⟨fb,fo+s * 5+3,δ⟩) (v:=Δ FSP) (by simp [*]);have m4:=aY hb1 (p:=⟨fb,fo+s * 5+4,δ⟩) (v:=Δ FST) (by simp [*]))
      | (go_at_call 42;with_reducible refine(HTs.o _).mono ?_;rintro e w1 ⟨rfl,hb1⟩;have hBt:=zq (aW (by first | exact hBo.o | exact hBf.o) hb1);have:=ck hb1 wr.heap.size 0 (Υ Ξ s);have:=ck hb1 wr.heap.size 1 (Δ FR);have:=ck hb1 wr.heap.size 2 (Δ EN);have:=ck hb1 w.heap.size 0 (Θ (ζ ⟨fb,fo,δ⟩) nf ca);have:=ck hb1 w.heap.size 1 (Θ b nf cb);have m0:=aY hb1 (p:=⟨fb,fo+s * 5,δ⟩) (v:=ω fup) (by simp [*]);have m1:=aY hb1 (p:=⟨fb,fo+s * 5+1,δ⟩) (v:=Υ Ξ fco) (by simp [*]);have m2:=aY hb1 (p:=⟨fb,fo+s * 5+2,δ⟩) (v:=Υ Ξ fdir) (by simp [*]);have m3:=aY hb1 (p:=⟨fb,fo+s * 5+3,δ⟩) (v:=Δ FSP) (by simp [*]);have m4:=aY hb1 (p:=⟨fb,fo+s * 5+4,δ⟩) (v:=Δ FST) (by simp [*])))
    all_goals
     go_wp2;go_meet;case rel=>exact⟨by first | rfl | rw [hw],by first | exact hBt.o | exact hBo.o⟩
   case rest=>
   obtain⟨rfl,HB3⟩:=hcut;have Ln:=zq (aW eU.o HB3.o);have HTx:=zq (az5.o.below HB3.o az5.o.lt);clear hw eU HB3 HFs HTs Hc f0 f1 f2 f3 f4 e0 e1 e2 el t0 t1 tl az5;obtain⟨d1,d2⟩:=HPa.o;by_cases d3:AD=0
   .subst d3;cases right with
    | true=>exact absurd rfl (d2 rfl)
    | false=>
     go_wp2;go_roundw;case rel=>exact⟨k+1,by go_num,oM,Ln.o,HTx.o⟩
     case measure=>simp only [ξ];omega
   .have d3:(AD==0)=ν:=by simpa using d3
    clear d2;cases right;all_goals
     go_wp2;go_roundw;case rel=>exact⟨k+1,by go_num,oM,Ln.o,HTx.o⟩
     case measure=>simp only [ξ];omega
  .obtain rfl:n=k:=oM;clear HS HO HT HA hlt;go_wp2;go_loopw [70] (fun i wr=>∃ j:Nat,i=Υ Ξ j/\j<=n/\aQ (Bw w wr)/\aQ (bE wr w.heap.size #[Θ a nf ca,Θ b nf cb] 70)) (fun i _=>n - (ξ i).toNat);case atStart=>exact⟨0,rfl,aP _,HB.o,Ka.o⟩
   case round=>
    clear HB Ka;obtain⟨j,rfl,hj,HB,Ka⟩:=hrel;by_cases hlt:j < n
    .have hqn:(j+1) % n < n:=aV _ oM;have az6:=J9 j n;have xZ:=R5.o j hlt;have hs2:=R5.o _ hqn;have hjj:=Hjb.o j hlt;generalize (j+1) % n=q at *;obtain⟨pb,po,rfl,c0,c1,c2⟩:=(Rp.o.below HB.o).at (i:=j) (by rw [Hp.o];exact hlt) rfl;obtain⟨pb',po',e1,d0,d1,d2⟩:=(Rp.o.below HB.o).at (i:=q) (by rw [Hp.o];exact hqn) rfl;injection e1 with e1;injection e1 with e1 e2;subst e1 e2;have HJj:=zq (HJ.o _ _ xZ hs2 hjj);clear xZ hs2 hjj;generalize ps.getD q Γ=p2,ps.getD j Γ=p at *;unfold Pt.v Pt.cells at HJj;obtain⟨s1,u1,v1⟩:=p;obtain⟨s2,u2,v2⟩:=p2;simp only [] at *;generalize bs v2=V2,bs u2=U2,bs v1=V1,bs u1=U1 at *;have BQ:IntKind.i64.wrap ((j:Int)+1)=(j:Int)+1:=aM _ oM;have SY:¬ n=0:=oM;have hqi:(q:Int) < (n:Int):=oM;have vH:(0:Int)<=(q:Int):=oM;obtain⟨t0,t1,-,-,tl⟩:=Ka.o.two;have HBp:=zq (HB.o.alloc HB.o.size (π #[Υ Ξ s1,Δ U1,Δ V1] 35));go_wp2;go_cut [86] (fun v W=>v=ω ν/\aQ (Bw wr W));case first=>
      go_region_held3 (fun w'=>(w'.cell? ⟨wr.heap.size,0,δ⟩=ζ (Υ Ξ s1)/\w'.cell? ⟨wr.heap.size,1,δ⟩=ζ (Δ U1)/\w'.cell? ⟨wr.heap.size,2,δ⟩=ζ (Δ V1))/\(w'.cell? ⟨w.heap.size,0,δ⟩=ζ (Θ a nf ca)/\w'.cell? ⟨w.heap.size,1,δ⟩=ζ (Θ b nf cb))/\w'.cell? ⟨pb,po+q * 3,δ⟩=ζ (Υ Ξ s2)/\w'.cell? ⟨pb,po+q * 3+1,δ⟩=ζ (Δ U2)/\w'.cell? ⟨pb,po+q * 3+2,δ⟩=ζ (Δ V2)) (go_keep)
       (first
        | (go_at_call 114;with_reducible refine(HJj.o _ HBp.o.drew).mono ?_;rintro e w1 ⟨rfl,hb1⟩;have hBo:=zq ((nA wr _).drew.trans (hb1.mono sP));have:=ck hb1 wr.heap.size 0 (Υ Ξ s1);have:=ck hb1 wr.heap.size 1 (Δ U1);have:=ck hb1 wr.heap.size 2 (Δ V1);have:=ck hb1 w.heap.size 0 (Θ a nf ca);have:=ck hb1 w.heap.size 1 (Θ b nf cb);have m3:=aY hb1 (p:=⟨pb,po+q * 3,δ⟩) (v:=Υ Ξ s2) (by simp [*]);have m4:=aY hb1 (p:=⟨pb,po+q * 3+1,δ⟩) (v:=Δ U2) (by simp [*]);have m5:=aY hb1 (p:=⟨pb,po+q * 3+2,δ⟩) (v:=Δ V2) (by simp [*])))
      all_goals
       go_wp2;go_meet;case rel=>exact⟨rfl,hBo.o⟩
     case rest=>
     obtain⟨rfl,eG⟩:=hcut;have Ln:=zq (aW HB.o eG.o);have HTx:=zq (Ka.o.below eG.o Ka.o.lt);clear BQ az6 HB eG Ka t0 t1 tl HBp;go_wp2;go_roundw;case rel=>exact⟨j+1,by go_num,oM,Ln.o,HTx.o⟩
     case measure=>simp only [ξ];omega
    .obtain rfl:n=j:=oM;go_wp2;go_ret;exact⟨rfl,HB.o⟩
def Zd(fs:List Fr)(at':List (List UInt8))(ls:List Lp)(right:Bool):Nat->Bool:=fun i=>!oH fs at' (ls.getD i Γ).ps right
def oI(fs:List Fr)(at':List (List UInt8))(ls:List Lp)(right:Bool):Bool:=!anyN (Zd fs at' ls right) ls.length
theorem gw{fs:List Fr}{ls:List Lp}{right:Bool}(h:oI fs at' ls right =ι)(hi:i<ls.length):oH fs at' (ls.getD i Γ).ps right =ι:=by
 unfold oI at h;have h1:=bJ.1 (by simpa using h) i hi;unfold Zd at h1;simpa using h1
theorem QH{fs:List Fr}{ls:List Lp}{right:Bool}(h:oI fs at' ls right =ι)(hi:i<ls.length)(hj:j<(ls.getD i Γ).ps.length):∃s:Nat,((ls.getD i Γ).ps.getD j Γ).side=s/\s<fs.length:=by
 have h2:=gw h hi;unfold oH at h2;simp only[aI]at h2;exact GQ (J8 (by simpa using h2.1.2) hj)
theorem az7(a b c nf n ca cb cc b1 b2 fs at' ps right w)(hE:mV w)(hf:fs.length=nf)(hl:at'.length=nf)(hp:ps.length=n)(hn:n<=96)(hdir:∀f∈fs,f.dir=1\/f.dir= -1)(lI:∀p∈ps,Sm p.fr/\Sm p.en)(rf:yA w a fs)(ra:Al w b at')(rp:Ih w c ps)(h0:w.cell? ⟨b1,0,δ⟩=ζ (Θ a nf ca))(h1:w.cell? ⟨b1,1,δ⟩=ζ (Θ b nf cb))(h2:w.cell? ⟨b2,0,δ⟩=ζ (ω right))(hw:oH fs at' ps right =ι):
 aE γ 62 #[Θ c n cc,aB (ζ ⟨b1,0,δ⟩),aB (ζ ⟨b2,0,δ⟩)] w (Rt (ω ν) w):=by
 have HW:=zq (af2 a b c nf n ca cb cc fs at' ps right w hE hf hl hp hn hdir lI rf ra rp hw);clear hE hf hl hp hdir lI rf ra rp hw;go_enter func62,ntmps62;go_wp2_with fail
 refine ka HW.o fun W1 hb1=>?_;go_wp2;go_ret;exact⟨rfl,hb1⟩
theorem Td(a b c nf n ca cb cc fs at' ls right w)(hE:mV w)(hf:fs.length=nf)(hl:at'.length=nf)(hs:ls.length=n)(hn:n<=24)(hdir:∀ f∈fs,f.dir=1\/f.dir= -1)(My:Dw ls)(rf:yA w a fs)(ra:Al w b at')(rl:CE w c ls)(hA:oI fs at' ls right=ι):
 aE γ 26 #[bQ #[Θ a nf ca,Θ b nf cb],Θ c n cc,ω right] w (Rt (ω ι) w):=by
 have q1:=(bE.new w #[Θ a nf ca,Θ b nf cb] 70).alloc (π #[ω right] 4);have q2:=bE.new (w.alloc (π #[Θ a nf ca,Θ b nf cb] 70)) #[ω right] 4;rw [aL] at q2;have hB:=(nA w (π #[Θ a nf ca,Θ b nf cb] 70)).alloc sP (π #[ω right] 4);obtain⟨W0,fI⟩:=nm ((w.alloc (π #[Θ a nf ca,Θ b nf cb] 70)).alloc (π #[ω right] 4));rw [fI] at q1 q2 hB;have HH:=zq (Vb 62 #[aB (ζ ⟨w.heap.size,0,δ⟩),aB (ζ ⟨w.heap.size+1,0,δ⟩)] (iC func62 kF rfl) c n cc ls (fun _=>ν) W0 hs oM (rl.below hB) (fun i hi W2 h2=>by
  have hm:=aN (i:=i) (by rw [hs];exact hi) (Γ:Lp);obtain⟨k1,k2⟩:=My _ hm;have mQ:=aW hB h2;obtain⟨pb,po,-,-,h3⟩:=(rl.below mQ).at (i:=i) (by rw [hs];exact hi) rfl;have t1:=q1.below h2 q1.lt;have t2:=q2.below h2 q2.lt;exact az7 a b _ nf _ ca cb _ w.heap.size (w.heap.size+1) fs at' _ right W2 (hE.below mQ) hf hl rfl k1 hdir k2 (rf.below mQ) (ra.below mQ) h3 (t1.cell 0) (t1.cell 1) (t2.cell 0) (gw hA (by rw [hs];exact hi))))
 rw [IK fun _ _=>rfl] at HH;have HB:=zq hB;have If:=zq fI;clear hE hf hl hs hdir My rf ra rl q1 q2 hB fI hA;go_enter func26,ntmps26;go_wp2_with fail
 rw [If.o];refine HH.o.mono ?_;rintro e W1 ⟨rfl,hb1⟩;go_wp2;go_ret;exact⟨rfl,aW HB.o hb1⟩
structure Po where
 x:List UInt8
 y:List UInt8
abbrev Po.cells(p:Po):Array χ:=#[Δ (bs p.x),Δ (bs p.y)]
abbrev Po.v(p:Po):χ:=bQ p.cells
instance:Inhabited Po:=⟨⟨[],[]⟩⟩
def bA(fs:List Fr)(at':List (List UInt8))(p:Pt):Po:=
 if(fs.getD p.side.toNat Γ).up=ι then⟨at'.getD p.side.toNat [],p.fr⟩else⟨p.fr,at'.getD p.side.toNat []⟩
theorem BR{p:Tmp}(h:fn.results= #[.cell p ty])(tmps w g x y)(hp:tmps.getD p ψ=aB (ζ ⟨g,0,δ⟩))(hb:bE w g #[x,y] T)(ha:∀w,(isAgg ty).run P w=.ok ι w)(hs:∀w,(sizeOf ty).run P w=.ok 2 w):
 (gP fn tmps).run P w=.ok (bQ #[x,y]) w:=by
 have S7:tmps[p]?.getD ψ=aB (ζ ⟨g,0,δ⟩):=by simpa using hp
 have c0:=hb.ce 0;have c1:=hb.ce 1;simp[gP,h,go_sem,S7,c0,c1,ha,hs]
theorem BS(a b:Option bW)(n ca cb:Nat)(fs:List Fr)(at':List (List UInt8))(p:Pt)(s:Nat)(w:η)
 (hs:p.side=s)(Jv:s<n)(hf:fs.length=n)(hl:at'.length=n)(rf:yA w a fs)(ra:Al w b at'):
 aE γ 45 #[bQ #[Θ a n ca,Θ b n cb],p.v] w (Rt ((bA fs at' p).v) w):=by
 obtain⟨b1,o1,rfl,c0,c1,c2,c3,c4⟩:=rf.at (i:=s) oM rfl;obtain⟨b2,o2,rfl,k0⟩:=ra s oM;obtain⟨ps,pf,pt⟩:=p;obtain rfl:ps=s:=hs;have R:aQ (bA fs at' ⟨s,pf,pt⟩=if(fs.getD s Γ).up=ι then⟨at'.getD s [],pf⟩else⟨pf,at'.getD s []⟩):=rfl;have l1:b1<w.heap.size:=aD w ⟨b1,o1+s*5,δ⟩ c0;have l2:b2<w.heap.size:=aD w ⟨b2,o2+s,δ⟩ k0;have u2:∀k,b2<w.heap.size+k:=fun k=>oM;have u1:∀k,b1<w.heap.size+k:=fun k=>oM;have v7:¬b2=w.heap.size+1+1:=oM;have v8:¬w.heap.size+1+1=b2:=oM;have v9:¬b2=w.heap.size+1:=oM;have u5:b2<w.heap.size+1:=oM;have u3:b1<w.heap.size+1+1:=oM;have u4:b2<w.heap.size+1+1:=oM;have v2:∀k,¬b2=w.heap.size+k:=fun k=>oM;have v5:∀k,¬w.heap.size+k=b2:=fun k=>oM;have v4:¬b2=w.heap.size:=oM;have v6:¬w.heap.size=b2:=oM;have Q1:aQ (∀x y,bE ((((w.alloc (π #[Θ (ζ ⟨b1,o1,δ⟩) n ca,Θ (ζ ⟨b2,o2,δ⟩) n cb] 70)).alloc (π #[Υ Ξ s,Δ (bs pf),Δ (bs pt)] 35)).alloc (π #[x,y] 59)).drew) (w.heap.size+1+1) #[x,y] 59):=fun x y=>by
  have:=bE.new ((w.alloc (π #[Θ (ζ ⟨b1,o1,δ⟩) n ca,Θ (ζ ⟨b2,o2,δ⟩) n cb] 70)).alloc (π #[Υ Ξ s,Δ (bs pf),Δ (bs pt)] 35)) #[x,y] 59;rwa[aL,aL]at this
 have HB:aQ (∀x y,Bw w ((((w.alloc (π #[Θ (ζ ⟨b1,o1,δ⟩) n ca,Θ (ζ ⟨b2,o2,δ⟩) n cb] 70)).alloc (π #[Υ Ξ s,Δ (bs pf),Δ (bs pt)] 35)).alloc (π #[x,y] 59)).drew)):=fun x y=>
  (((nA w _).alloc sP _).alloc (by simp;omega) _).drew
 have KZ:aQ (∀x y,(((w.alloc (π #[Θ (ζ ⟨b1,o1,δ⟩) n ca,Θ (ζ ⟨b2,o2,δ⟩) n cb] 70)).alloc (π #[Υ Ξ s,Δ (bs pf),Δ (bs pt)] 35)).alloc (π #[x,y] 59)).drew.cell? ⟨b2,o2+s,δ⟩=ζ (Δ (bs (at'.getD s [])))):=fun x y=>((HB.o x y).cell (p:=⟨b2,o2+s,δ⟩) l2).trans k0;clear rf ra hf hl;generalize at'.getD s []=A,fs.getD s Γ=f at *;obtain⟨fup,fco,fdir,Ll,fst⟩:=f;simp only[]at *;unfold Pt.v Pt.cells;simp only[];cases fup;case' false=>have R2:aQ ((bA fs at' ⟨s,pf,pt⟩).v=bQ #[Δ (bs pf),Δ (bs A)]):=by show Po.v _=_;rw[R.o];rfl
 case' true=>have R2:aQ ((bA fs at' ⟨s,pf,pt⟩).v=bQ #[Δ (bs A),Δ (bs pf)]):=by show Po.v _=_;rw[R.o];rfl
 all_goals
  clear R;generalize bs pt=PT,bs pf=PF,bs A=As,bA fs at' ⟨s,pf,pt⟩=RC at *;go_enter func45,ntmps45;go_wp2;have kk:=KZ.o (Δ {data:=#[]}) (Δ {data:=#[]});go_region_held3 (fun w'=>(w'.cell? ⟨w.heap.size+1,0,δ⟩=ζ (Υ Ξ s)/\w'.cell? ⟨w.heap.size+1,1,δ⟩=ζ (Δ PF)/\w'.cell? ⟨w.heap.size+1,2,δ⟩=ζ (Δ PT))/\(w'.cell? ⟨w.heap.size,0,δ⟩=ζ (Θ (ζ ⟨b1,o1,δ⟩) n ca)/\w'.cell? ⟨w.heap.size,1,δ⟩=ζ (Θ (ζ ⟨b2,o2,δ⟩) n cb))/\w'.cell? ⟨b2,o2+s,δ⟩=ζ (Δ As)) ((try refine⟨⟨?_,?_,?_⟩,⟨?_,?_⟩,?_⟩)<;>(first |exact kk|exact KZ.o _ _|go_keep)) (fail)
  go_wp2;refine cU (BR (T:=59) Tryz.results45 _ _ (w.heap.size+1+1) _ _ rfl (Q1.o _ _) isAgg59 sizeOf59) rfl ⟨by rw[R2.o]<;>rfl,HB.o _ _⟩
def rA(qs:List Po):List χ:=qs.flatMap fun q=>[Δ (bs q.x),Δ (bs q.y)]
theorem Vh(qs q):rA (qs++[q])=rA qs++[Δ (bs q.x),Δ (bs q.y)]:=by simp[rA]
theorem Ze(qs):(rA qs).length=2*qs.length:=by
 induction qs with
 |nil=>rfl
 |cons q qs ih=>simp[rA]at *;omega
theorem QI:∀(qs:List Po)(i:Nat),i<qs.length->(rA qs)[i*2]? =ζ (Δ (bs (qs.getD i Γ).x))/\(rA qs)[i*2+1]? =ζ (Δ (bs (qs.getD i Γ).y))
 |[],i,h=>by simp at h
 |q::qs,0,_=>⟨rfl,rfl⟩
 |q::qs,i+1,h=>by
  have ih:=QI qs i (by simpa using h)
  have e1:(i+1)*2=i*2+1+1:=oM
  have e2:(i+1)*2+1=(i*2+1)+1+1:=oM
  have e:rA (q::qs)=Δ (bs q.x)::Δ (bs q.y)::rA qs:=rfl
  rw[e2,e1,e]
  simp only[cO,jS]
  exact ih
def Ym(W:η)(a:Option bW)(qs:List Po):Prop:=
 ∀i,i<qs.length->∃b off,a=ζ ⟨b,off,δ⟩/\W.cell? ⟨b,off+i*2,δ⟩=ζ (Δ (bs (qs.getD i Γ).x))/\W.cell? ⟨b,off+i*2+1,δ⟩=ζ (Δ (bs (qs.getD i Γ).y))
theorem Ym.below{a:Option bW}{qs:List Po}(h:Ym w a qs)(hb:Bw w w'):Ym w' a qs:=by
 intro i hi;obtain⟨b,off,rfl,h1,h2⟩:=h i hi;exact⟨b,off,rfl,(hb.cell (p:=⟨b,off+i*2,δ⟩) (aD w _ h1)).trans h1,(hb.cell (p:=⟨b,off+i*2+1,δ⟩) (aD w _ h2)).trans h2⟩
theorem Ym.own{a:Option bW}{n:Nat}{qs:List Po}(h:w.ownsRow cH e 2 (Θ a n cap) n (rA qs)):Ym w a qs:=by
 intro i hi;have hl:=h.1;rw[Ze]at hl;rcases h.2 with⟨_,h2⟩|⟨g,c,pZ,hv,_⟩
 .omega
 .injection hv with e1 e2 e3;subst e1 e3;obtain⟨k1,k2⟩:=QI qs i hi;refine⟨g,0,rfl,?_,?_⟩
  .rw[bD,dN h (i*2) oM,k1]
  .rw[bD,dN h (i*2+1) oM,k2]
structure Lo where
 a:Option bW
 cap:Nat
 qs:List Po
instance:Inhabited Lo:=⟨⟨δ,0,[]⟩⟩
def bb7(W:η)(a:Option bW)(ls:List Lo):Prop:=
 ∀i,i<ls.length->∃b off,a=ζ ⟨b,off,δ⟩/\W.cell? ⟨b,off+i,δ⟩=ζ (Θ (ls.getD i Γ).a (ls.getD i Γ).qs.length (ls.getD i Γ).cap)/\Ym W (ls.getD i Γ).a (ls.getD i Γ).qs
def rV(fs:List Fr)(at':List (List UInt8))(ls:List Lp):List (List Po):=ls.map fun l=>l.ps.map fun p=>bA fs at' p
theorem az8:(Tryz.prog.info? 59).map (fun i=>(i.zero,i.size,i.bytes))=ζ (ζ (bQ #[Δ ⟨#[]⟩,Δ ⟨#[]⟩]),2,32):=kF
theorem az9:(Tryz.prog.info? 57).map (fun i=>(i.zero,i.size,i.bytes))=ζ (ζ (Θ δ 0 0),1,24):=kF
theorem aR4{o:eZ}{Q:sG->iS->η->Prop}(Io:o.guard=δ)(s x)(ho:o.op=.call {callee:=.builtin .append,args:=#[s,x],argTypes:=#[57,57]})(cH v n xs)(hs:a.eval s=v)(cT:w.ownsRow cH 59 2 v n xs)(y z)(hx:a.eval x=Θ (ζ ⟨w.heap.size,0,δ⟩) 1 1)(OZ:n+1<=2147483648)(kH:cH<=w.heap.size)(h:∀g cap w',w'.ownsRow cH 59 2 (Θ (ζ ⟨g,0,δ⟩) (n+1) cap) (n+1) (xs++[Δ y,Δ z])->cH<=g->w.grownBy w' v.ownBlock->
  Dk γ cF Q rest (a.put o.dst (Θ (ζ ⟨g,0,δ⟩) (n+1) cap)) w'):
 Dk γ cF Q (o::rest) a (w.alloc (π #[Δ y,Δ z] 59)):=by
 obtain⟨i0,hi,Ak,yP,uT⟩:=jJ az8;exact xH Io s x 57 ho cH 59 i0 (bQ #[Δ ⟨#[]⟩,Δ ⟨#[]⟩]) 2 32 underlying57 hi Ak yP uT rfl dD v n xs hs cT [Δ y,Δ z] hx rfl (by simp[iP]) OZ dD kH h
theorem aR5{o:eZ}{Q:sG->iS->η->Prop}(Io:o.guard=δ)(s x)(ho:o.op=.call {callee:=.builtin .append,args:=#[s,x],argTypes:=#[53,53]})(cH v n xs)(hs:a.eval s=v)(cT:w.ownsRow cH 57 1 v n xs)(ad m c)(hx:a.eval x=Θ (ζ ⟨w.heap.size,0,δ⟩) 1 1)(OZ:n+1<=2147483648)(kH:cH<=w.heap.size)(h:∀g cap w',w'.ownsRow cH 57 1 (Θ (ζ ⟨g,0,δ⟩) (n+1) cap) (n+1) (xs++[Θ ad m c])->cH<=g->w.grownBy w' v.ownBlock->
  Dk γ cF Q rest (a.put o.dst (Θ (ζ ⟨g,0,δ⟩) (n+1) cap)) w'):
 Dk γ cF Q (o::rest) a (w.alloc (π #[Θ ad m c] 57)):=by
 obtain⟨i0,hi,Ak,yP,uT⟩:=jJ az9;exact xH Io s x 53 ho cH 57 i0 (Θ δ 0 0) 1 24 underlying53 hi Ak yP uT rfl dD v n xs hs cT [Θ ad m c] hx rfl (by simp[iP]) OZ dD kH h
theorem pQ{b1 b2 e1 e2 s1 s2 n1 n2:Nat}{v1 v2:χ}{ys:List χ}(h1:w.ownsRow b1 e1 s1 v1 n1 xs)(h2:w.ownsRow b2 e2 s2 v2 n2 ys)(hne:e1≠e2):v1.ownBlock=δ\/v1.ownBlock≠v2.ownBlock:=by
 rcases h1.2 with⟨h,_⟩|⟨g1,c1,bt9,h,_,k1,_⟩
 .left;rw[h];rfl
 .right;rw[h];rcases h2.2 with⟨h',_⟩|⟨g2,c2,bu0,h',_,k2,_⟩
  .rw[h'];simp[iQ]
  .rw[h'];simp only[iQ,ne_eq,vF];rintro rfl;rw[k1]at k2;injection k2 with k2;injection k2 with _ k3;exact hne k3
def loV(l:Lo):χ:=Θ l.a l.qs.length l.cap
def BU(B:Nat)(W:η)(v:χ)(aZ:List Lo):Prop:=
 W.ownsRow B 57 1 v aZ.length (aZ.map loV)/\∀l∈aZ,W.ownsRow B 59 2 (loV l) l.qs.length (rA l.qs)
theorem BU.below{v:χ}{aZ:List Lo}(h:BU B W v aZ)(hb:Bw W W'):BU B W' v aZ:=
 ⟨aR h.1 hb,fun l hl=>aR (h.2 l hl) hb⟩
theorem BU.grow{v:χ}{aZ:List Lo}{l:Lo}{g:Nat}(h:BU B W v aZ)(hl:W.ownsRow B 59 2 (loV l) l.qs.length (rA l.qs))(hg:W.grownBy W' v.ownBlock)(cT:W'.ownsRow B 57 1 (Θ (ζ ⟨g,0,δ⟩) (aZ.length+1) cap) (aZ.length+1) (aZ.map loV++[loV l])):
 BU B W' (Θ (ζ ⟨g,0,δ⟩) (aZ.length+1) cap) (aZ++[l]):=by
 refine⟨by rw[aJ,List.map_append];exact cT,fun x hx=>?_⟩;rcases List.mem_append.1 hx with hx|hx
 .exact(h.2 x hx).kept hg (pQ (h.2 x hx) h.1 dD)
 .rw[List.mem_singleton.1 hx];exact hl.kept hg (pQ hl h.1 dD)
theorem BU.reads{a:Option bW}{n:Nat}{aZ:List Lo}(h:BU B W (Θ a n cap) aZ):bb7 W a aZ:=by
 intro i hi;have hl:=aN hi (Γ:Lo);have h2:=h.2 _ hl;rcases h.1.2 with⟨_,h3⟩|⟨g,c,pZ,hv,_⟩
 .omega
 .injection hv with e1 e2 e3;subst e1 e2 e3;refine⟨g,0,rfl,?_,Ym.own h2⟩;rw[bD,dN h.1 i oM];simp[Ω,hi,loV]
def aR6(w:η)(Vi:List (List Po))(err:Int)(e:Fg)(w':η):Prop:=
 (∃a cap,∃aZ:List Lo,e=σ (bT #[Θ a Vi.length cap,Υ Ξ err])/\aZ.map Lo.qs=Vi/\bb7 w' a aZ)/\Bw w w'
end
end Go.Proofs.YtncclggcfgnhpaaGreatDoor
