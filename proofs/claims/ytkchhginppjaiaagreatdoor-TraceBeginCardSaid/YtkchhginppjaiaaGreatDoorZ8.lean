import Derived.Test.YtkchhginppjaiaaGreatDoorProg
import Derived.Deep.QuietTactic
import Derived.Shelf.Small.Wraps
import Derived.BigQuiet
import Derived.WalkSmall
import Derived.WalkSpells
import Derived.WalkLawsBesides
import Derived.ChangeAlike
import Derived.StillTailTactics
import Derived.Deep.RegionHeld3
import Derived.Deep.DeepCutAuto
import Derived.Sort.CutIn
import Derived.Test.YtkchhginppjaiaaGreatDoorZ0
import Derived.Test.YtkchhginppjaiaaGreatDoorZ1
import Derived.Test.YtkchhginppjaiaaGreatDoorZ2
import Derived.Test.YtkchhginppjaiaaGreatDoorZ6
import Derived.Test.YtkchhginppjaiaaGreatDoorZ7
namespace Go.Proofs.YtkchhginppjaiaaGreatDoor
set_option maxRecDepth 100000
set_option maxHeartbeats 8000000
set_option linter.all false
open Go.Proofs.Tryz
open _root_.Array renaming replicate_succ->cA,replicate_zero->cB
open _root_.Bool renaming or_eq_false_iff->kC,false_or->oM,eq_iff_iff->pI,true_and->vN,false_and->zT,and_false->R8
open _root_.Go renaming World->aF,Value->aP,undef->aO,Calls->bE,Addr->cO,Program->dN,TypeId->dT,bodyPost_ret->dU,below_drewN->eF,results_tmp->iS,results->lF,run_takeDeferred->nD,wpAnyIn_done->pM,ownFrom_below->yY
open Go.Act renaming put->cS
open Go.AllReadyIn renaming nil->eB
open Go.Ending renaming returned->bA
open Go.Fence renaming wide->eP
open Go.IntKind renaming i64->aB
open Go.IntWalk renaming i64_in->bI
open Go.KeepsOthers renaming setCell->dG
open Go.Obj renaming cells->aN
open Go.Oper renaming semAt_some->gM
open Go.OwnFrom renaming and->eO
open Go.Proofs.Tryz renaming prog->aE,results56->Of,ntmps176->Sc,func176->VO
open Go.RowKit renaming intOf->aK,Hid->bK
open Go.RowKit.Below renaming refl->aL
open Go.Value renaming int->aC,slice->aD,bool->aV,pointer->aY,agg->cF,tuple->cK
open Go.World renaming block_lt_of_cell?->bB,size_alloc->bH
open _root_.Int renaming mul_nonneg->nE,tmod_eq_emod_of_nonneg->rM,mul_le_mul->vO,le_refl->G4
open _root_.List renaming getD_eq_getElem?_getD->aG,getElem?_cons_zero->aI,getElem?_toArray->aJ,setIfInBounds_toArray->aM,set_cons_zero->aT,set_cons_succ->aW,getElem?_cons_succ->bC,length_cons->bD,getElem?_eq_getElem->bN,length_nil->bV,size_toArray->cD,append_toArray->cH,cons_append->cJ,push_toArray->cR,nil_append->dF,flatMap_cons->kT,getElem?_eq_none->Ea
open _root_.List.Pairwise renaming nil->Jv
open _root_.Nat renaming le_refl->aH,le_trans->aU,zero_le->bM,mod_eq_of_lt->bY,zero_add->cC,mod_lt->dB,lt_of_lt_of_le->dC,reduceAdd->dQ,reduceSub->dR,lt_or_ge->fP,add_zero->oG,zero_mul->yW,le_of_eq->A9,le_succ->Hv,lt_succ_self->Od,succ_mul->PW
section
open Go Go.RowKit Go.Lib
structure Sd where
 x:Int
 y:Int
 rise:Int
 run:Int
 gable:Bool
 plate:Int
 over:Int
abbrev Sd.cells(s:Sd):Array aP:= #[aC aB s.x,aC aB s.y,aC aB s.rise,aC aB s.run,aV s.gable,aC aB s.plate,aC aB s.over]
abbrev Sd.v(s:Sd):aP:=cF s.cells
instance:Inhabited Sd:=⟨⟨0,0,0,0,false,0,0⟩⟩
structure Rg where
 a:Option cO
 cap:Nat
 ss:List Sd
def Rg.v(l:Rg):aP:=aD l.a l.ss.length l.cap
instance:Inhabited Rg:=⟨⟨none,0,[]⟩⟩
def kY(W:aF)(a:Option cO)(ss:List Sd):Prop:=
 ∀i,i<ss.length→∃b off,a=some ⟨b,off,none⟩∧∀j,j<7→W.cell? ⟨b,off+i*7+j,none⟩=some ((ss.getD i default).cells.getD j aO)
def GN(W:aF)(a:Option cO)(rs:List Rg):Prop:=
 ∀i,i<rs.length→∃b off,a=some ⟨b,off,none⟩∧W.cell? ⟨b,off+i,none⟩=some (rs.getD i default).v∧kY W (rs.getD i default).a (rs.getD i default).ss
theorem kY.below{w w':aF}{a:Option cO}{ss:List Sd}(h:kY w a ss)(hb:Below w.heap.size w w'):kY w' a ss:=by
 intro i hi;obtain⟨b,off,rfl,hc⟩:=h i hi;exact⟨b,off,rfl,fun j hj=>(hb.cell (p:=⟨b,off+i*7+j,none⟩) (bB w _ (hc j hj))).trans (hc j hj)⟩
theorem GN.below{w w':aF}{a:Option cO}{rs:List Rg}(h:GN w a rs)(hb:Below w.heap.size w w'):GN w' a rs:=by
 intro i hi;obtain⟨b,off,rfl,hc,hp⟩:=h i hi;exact⟨b,off,rfl,(hb.cell (p:=⟨b,off+i,none⟩) (bB w _ hc)).trans hc,hp.below hb⟩
theorem kY.at{w:aF}{a:Option cO}{ss:List Sd}(h:kY w a ss){i:Nat}(hi:i<ss.length){s:Sd}(hs:ss.getD i default=s):∃b off,a=some ⟨b,off,none⟩∧
 w.cell? ⟨b,off+i*7,none⟩=some (aC aB s.x)∧w.cell? ⟨b,off+i*7+1,none⟩=some (aC aB s.y)∧w.cell? ⟨b,off+i*7+2,none⟩=some (aC aB s.rise)∧
 w.cell? ⟨b,off+i*7+3,none⟩=some (aC aB s.run)∧w.cell? ⟨b,off+i*7+4,none⟩=some (aV s.gable)∧w.cell? ⟨b,off+i*7+5,none⟩=some (aC aB s.plate)∧w.cell? ⟨b,off+i*7+6,none⟩=some (aC aB s.over):=by
 obtain⟨b,off,rfl,hc⟩:=h i hi;subst hs;exact⟨b,off,rfl,hc 0 (by decide),hc 1 (by decide),hc 2 (by decide),hc 3 (by decide),hc 4 (by decide),hc 5 (by decide),hc 6 (by decide)⟩
theorem GN.at{w:aF}{a:Option cO}{rs:List Rg}(h:GN w a rs){i:Nat}(hi:i<rs.length){l:Rg}(hl:rs.getD i default=l):∃b off,a=some ⟨b,off,none⟩∧
 w.cell? ⟨b,off+i,none⟩=some (aD l.a l.ss.length l.cap)∧kY w l.a l.ss:=by
 obtain⟨b,off,rfl,hc,hp⟩:=h i hi;subst hl;exact⟨b,off,rfl,hc,hp⟩
def Dr(w W:aF):Prop:=∃n,W=w.drewN n
theorem Dr.refl(w:aF):Dr w w:=⟨0,rfl⟩
theorem Dr.drewN(w:aF)(n:Nat):Dr w (w.drewN n):=⟨n,rfl⟩
theorem Dr.trans{a b c:aF}(h:Dr a b)(k:Dr b c):Dr a c:=by
 obtain⟨n,rfl⟩:=h;obtain⟨m,rfl⟩:=k;exact⟨n+m,by rw[World.drewN_drewN]⟩
theorem Dr.below{a b:aF}(h:Dr a b):Below a.heap.size a b:=by
 obtain⟨n,rfl⟩:=h;exact eF (aL _ _) n
theorem qb{P:dN}{f:FuncId}{ar:Array aP}{W:aF}{v:aP}(H:bE P f ar W fun e w'=>e=bA v∧Dr W w'):bE P f ar W (Rt (v) W):=
 H.mono fun _ _⟨h,k⟩=>⟨h,k.below⟩
def fF(l:List Sd)(i:Nat):Sd:=l.getD ((i+1)%l.length) default
def pre(n i:Nat):Nat:=(i+n-1)%n
def AH(l:List Sd):Prop:=∀i,0≤(l.getD i default).x∧(l.getD i default).x≤65536∧0≤(l.getD i default).y∧(l.getD i default).y≤65536
def tB(n:Int):Int:=if n<0 then -1 else if 0<n then 1 else 0
def BQ(l:List Sd)(i:Nat):Int:=tB ((fF l i).x-(l.getD i default).x)
def dY(l:List Sd)(i:Nat):Int:=tB ((fF l i).y-(l.getD i default).y)
def Ss(l:List Sd)(i:Nat):Int:=BQ l (pre l.length i)*dY l i-dY l (pre l.length i)*BQ l i
theorem pH(n:Int): -1≤tB n∧tB n≤1:=by
 unfold tB;split
 ·omega
 ·split <;>omega
theorem Je{n i:Nat}(h:i<n):pre n i<n:=dB _ (by omega)
theorem KX(k n:Nat):((k:Int)+1).tmod (n:Int)=(((k+1)%n:Nat):Int):=by
 rw[rM (by omega)];push_cast;rfl
theorem MK{k n:Nat}(h:k<n):((k:Int)+(n:Int)-1).tmod (n:Int)=((pre n k:Nat):Int):=by
 rw[rM (by omega)];unfold pre;rw[show(k:Int)+(n:Int)-1=((k+n-1:Nat):Int) by omega];rfl
theorem r11_sign(n:Int)(w:aF):bE aE 176 #[aC aB n] w fun e w'=>e=bA (aC aB (tB n))∧w=w':=by
 by_cases h:n<0
 ·have E:bK (tB n= -1):=ip h;go_enter VO,Sc;go_wp2;go_ret;exact⟨by rw[E.out]<;>rfl,rfl⟩
 ·by_cases h2:0<n
  ·have E:bK (tB n=1):=by show _=_;rw[tB,iN h,ip h2]
   go_enter VO,Sc;go_wp2;go_ret;exact⟨by rw[E.out]<;>rfl,rfl⟩
  ·have E:bK (tB n=0):=by show _=_;rw[tB,iN h,iN h2]
   go_enter VO,Sc;go_wp2;go_ret;exact⟨by rw[E.out]<;>rfl,rfl⟩
theorem MM(a:Option cO)(n cap i:Nat)(l:List Sd)(w:aF)(hl:l.length=n)(hn:n≤1000000)(hi:i<n)(r:kY w a l):
 bE aE 175 #[aD a n cap,aC aB (i:Int)] w fun e w'=>e=bA (cK #[aC aB (fF l i).x,aC aB (fF l i).y])∧Dr w w':=by
 have hm:(i+1)%n<n:=dB _ (by omega);obtain⟨b,o,rfl,c0,c1,-⟩:=r.at (i:=(i+1)%n) (by omega) (s:=fF l i) (by unfold fF;rw[hl]);have ht:=KX i n;generalize fF l i=q at *;generalize(i+1)%n=m at *;clear r hl;go_enter func175,ntmps175;go_wp2;go_quiet (fail)
 go_wp2;go_ret2;exact⟨rfl,.drewN _ _⟩
theorem Ri(a:Option cO)(n cap i:Nat)(l:List Sd)(w:aF)(hl:l.length=n)(hn:n≤1000000)(hi:i<n)(r:kY w a l):
 bE aE 175 #[aD a n cap,aC aB (i:Int)] w (Rt (cK #[aC aB (fF l i).x,aC aB (fF l i).y]) w):=qb (MM a n cap i l w hl hn hi r)
theorem zH(a:Option cO)(n cap i:Nat)(l:List Sd)(w:aF)(hl:l.length=n)(hn:n≤1000000)(hi:i<n)(hC:AH l)(r:kY w a l):
 bE aE 112 #[aD a n cap,aC aB (i:Int)] w (Rt (cK #[aC aB (BQ l i),aC aB (dY l i)]) w):=by
 have HE:=zq (Ri a n cap i l w hl hn hi r);have HS:=zq r11_sign;obtain⟨b,o,rfl,c0,c1,-⟩:=r.at (i:=i) (by omega) rfl;have h1:=hC i;have h2:=hC ((i+1)%l.length);rw[show l.getD ((i+1)%l.length) default=fF l i from rfl]at h2;have EX:bK (tB ((fF l i).x-(l.getD i default).x)=BQ l i):=rfl;have EY:bK (tB ((fF l i).y-(l.getD i default).y)=dY l i):=rfl;generalize fF l i=q at *;generalize l.getD i default=s at *;generalize BQ l i=DX at *;generalize dY l i=DY at *;obtain⟨x1,x2,x3,x4⟩:=h1;obtain⟨y1,y2,y3,y4⟩:=h2;clear r hl hC;go_enter func112,ntmps112;go_wp2_with fail
 refine HE.out.mono ?_;rintro e W⟨rfl,hb⟩;have c0:=bR hb c0;have c1:=bR hb c1;have HB:=zq hb;clear hb HE;go_wp2;have e1:IntKind.i64.wrap (q.x-s.x)=q.x-s.x:=bI _ (by omega);have e2:IntKind.i64.wrap (q.y-s.y)=q.y-s.y:=bI _ (by omega);go_quiet ((go_at_call 176;exact Calls.quiet_of_same ((HS.out _ _).mono fun e w'⟨h1,h2⟩=>⟨h1,h2.symm⟩)))
 clear e1 e2;go_wp2;go_ret2;exact⟨by rw[EX.out,EY.out]<;>rfl,eF HB.out _⟩
theorem UM(a:Option cO)(n cap i:Nat)(l:List Sd)(w:aF)(hl:l.length=n)(hn:n≤1000000)(hi:i<n)(hC:AH l)(r:kY w a l):
 bE aE 113 #[aD a n cap,aC aB (i:Int)] w (Rt (aC aB (Ss l i)) w):=by
 have H1:=zq (zH a n cap (pre n i) l w hl hn (Je hi) hC r);have H2:=zq (fun W(hW:Below w.heap.size w W)=>zH a n cap i l W hl hn hi hC (r.below hW));have E:bK (Ss l i=BQ l (pre n i)*dY l i-dY l (pre n i)*BQ l i):=by show _=_;rw[←hl];rfl
 have ht:=MK hi;have b1:∀u v:Int,-1≤u∧u≤1→-1≤v∧v≤1→-1≤u*v∧u*v≤1:=fun u v h k=>by
  obtain rfl|rfl|rfl:u= -1∨u=0∨u=1:=by omega
  all_goals omega
 have g1:=b1 (BQ l (pre n i)) (dY l i) (pH _) (pH _);have g2:=b1 (dY l (pre n i)) (BQ l i) (pH _) (pH _);generalize BQ l (pre n i)=A at *;generalize dY l (pre n i)=B at *;generalize BQ l i=C at *;generalize dY l i=D at *;generalize Ss l i=T at *;generalize pre n i=m at *;clear r hl hC b1;go_enter func113,ntmps113;go_wp2_with fail
 refine H1.out.mono ?_;rintro e W⟨rfl,hb⟩;go_wp2_with fail
 refine(H2.out _ hb).mono ?_;rintro e W2⟨rfl,hb2⟩;have HB:=zq (cI (aL _ w|>.trans hb) hb2 hb.size);clear hb hb2 H1 H2;go_wp2;go_ret;exact⟨by rw[E.out]<;>rfl,HB.out⟩
def outI(n f t:Int):Bool:=decide (n<f)||decide (t<n)
theorem UN(n f t:Int)(w:aF):bE aE 111 #[aC aB n,aC aB f,aC aB t] w fun e w'=>e=bA (aV (outI n f t))∧w=w':=by
 have E:bK (outI n f t=(decide (n<f)||decide (t<n))):=rfl;cases h:decide (n<f)
 ·rw[h,oM]at E;go_enter func111,ntmps111;go_wp2;go_ret;exact⟨by rw[E.out]<;>rfl,rfl⟩
 ·rw[h,Bool.true_or]at E;go_enter func111,ntmps111;go_wp2;go_ret;exact⟨by rw[E.out]<;>rfl,rfl⟩
def vV(s:Sd):Bool:= !(outI s.x 0 65536||(outI s.y 0 65536||(outI s.plate 0 65536||outI s.over 0 65536)))&&(if s.gable=true then(s.rise==0)&&(s.run==0)else !outI s.rise 1 48&& !outI s.run 1 48)
theorem BR{W:aF}{b:Nat}{u0 u1 u2 u3 u4 u5 u6:aP}{T:dT}(h:bT W b #[u0,u1,u2,u3,u4,u5,u6] T):W.cell? ⟨b,0,none⟩=some u0∧W.cell? ⟨b,1,none⟩=some u1∧W.cell? ⟨b,2,none⟩=some u2∧W.cell? ⟨b,3,none⟩=some u3∧W.cell? ⟨b,4,none⟩=some u4∧W.cell? ⟨b,5,none⟩=some u5∧W.cell? ⟨b,6,none⟩=some u6:=⟨h.cell 0,h.cell 1,h.cell 2,h.cell 3,h.cell 4,h.cell 5,h.cell 6⟩
theorem XP(s:Sd)(w:aF):bE aE 37 #[s.v] w (Rt (aV (vV s)) w):=by
 obtain⟨x,y,rise,run,gable,plate,over⟩:=s;have E:bK (vV ⟨x,y,rise,run,gable,plate,over⟩=(!(outI x 0 65536||(outI y 0 65536||(outI plate 0 65536||outI over 0 65536)))&&(if gable=true then(rise==0)&&(run==0)else !outI rise 1 48&& !outI run 1 48))):=rfl;have HO:=zq UN;generalize vV ⟨x,y,rise,run,gable,plate,over⟩=R at *;have H1:=zq (fun W=>HO.out x 0 65536 W);have H2:=zq (fun W=>HO.out y 0 65536 W);have H3:=zq (fun W=>HO.out plate 0 65536 W);have H4:=zq (fun W=>HO.out over 0 65536 W);have H5:=zq (fun W=>HO.out rise 1 48 W);have H6:=zq (fun W=>HO.out run 1 48 W);generalize outI x 0 65536=b1 at *;generalize outI y 0 65536=b2 at *;generalize outI plate 0 65536=b3 at *;generalize outI over 0 65536=b4 at *;generalize outI rise 1 48=b5 at *;generalize outI run 1 48=b6 at *;clear HO;have HB:=zq ((aL _ w).alloc (aH _) (aN #[aC aB x,aC aB y,aC aB rise,aC aB run,aV gable,aC aB plate,aC aB over] 56));have hx:bK ((b1=true∨b1=false∧b2=true∨b1=false∧b2=false∧b3=true∨b1=false∧b2=false∧b3=false∧b4=true)∧R=false∨b1=false∧b2=false∧b3=false∧b4=false∧(gable=true∧((rise==0)=false∧R=false∨rise=0∧R=(run==0))∨gable=false∧(b5=true∧R=false∨b5=false∧R= !b6))):=by
  show _∨_;rw[E.out];cases b1<;>cases b2<;>cases b3<;>cases b4<;>cases gable<;>cases b5<;>by_cases h:rise=0<;>simp[h]
 clear E;unfold Sd.v Sd.cells;simp only[];go_enter func37,ntmps37;rcases hx.out with⟨(rfl|⟨rfl,rfl⟩|⟨rfl,rfl,rfl⟩|⟨rfl,rfl,rfl,rfl⟩),rfl⟩|⟨rfl,rfl,rfl,rfl,(⟨rfl,(⟨h,rfl⟩|⟨rfl,rfl⟩)⟩|⟨rfl,(⟨rfl,rfl⟩|⟨rfl,rfl⟩)⟩)⟩;all_goals
  clear hx;go_wp2_with (first
   |((with_reducible refine(H1.out _).mono ?_);rintro e w1 ⟨rfl,rfl⟩)
   |((with_reducible refine(H2.out _).mono ?_);rintro e w1 ⟨rfl,rfl⟩)
   |((with_reducible refine(H3.out _).mono ?_);rintro e w1 ⟨rfl,rfl⟩)
   |((with_reducible refine(H4.out _).mono ?_);rintro e w1 ⟨rfl,rfl⟩)
   |((with_reducible refine(H5.out _).mono ?_);rintro e w1 ⟨rfl,rfl⟩)
   |((with_reducible refine(H6.out _).mono ?_);rintro e w1 ⟨rfl,rfl⟩)
   |fail)
  go_ret;exact⟨rfl,HB.out⟩
theorem Rj{a b:Int}(h1:0≤a)(h2:a≤65536)(h3:0≤b)(h4:b≤65536):0≤a*b∧a*b≤4294967296:=
 ⟨nE h1 h3,by have:=vO h2 h4 h3 (by decide:(0:Int)≤65536);omega⟩
def jL(l:List Sd):Nat→Int
 |0=>0
 |k+1=>jL l k+(l.getD k default).x*(fF l k).y-(fF l k).x*(l.getD k default).y
theorem GO{l:List Sd}(hC:AH l):∀k:Nat,-(4294967296*(k:Int))≤jL l k∧jL l k≤4294967296*(k:Int)
 |0=>⟨G4 _,G4 _⟩
 |k+1=>by
  have:=GO hC k
  obtain⟨a1,a2,a3,a4⟩:=hC k
  obtain⟨b1,b2,b3,b4⟩:=hC ((k+1)%l.length)
  have h1:=Rj a1 a2 b3 b4
  have h2:=Rj b1 b2 a3 a4
  have e:jL l (k+1)=jL l k+(l.getD k default).x*(l.getD ((k+1)%l.length) default).y-(l.getD ((k+1)%l.length) default).x*(l.getD k default).y:=rfl
  rw[e]
  generalize(l.getD k default).x*(l.getD ((k+1)%l.length) default).y=p at *
  generalize(l.getD ((k+1)%l.length) default).x*(l.getD k default).y=q at *
  generalize jL l k=t at *
  push_cast
  omega
theorem ji (a:Option cO) (n cap:Nat) (l:List Sd) (w:aF) (hl:l.length=n) (hn:n≤1000) (hC:AH l) (r:kY w a l) :
 bE aE 115 #[aD a n cap] w fun e w' => e=bA (aC aB (jL l n))∧Dr w w' :=by
 have HE:=zq (fun k (hk:k < n) W (hW:Dr w W)=> MM a n cap k l W hl (by omega) hk (r.below hW.below));have HC:=zq hC;have HR:=zq r;have HL:=zq hl;clear hC r hl;go_enter func115,ntmps115;go_wp2;go_loopw [3,4] (fun t i wr=> ∃ k:Nat,i=aC aB k∧t=aC aB (jL l k)∧k≤n∧bK (Dr w wr)) (fun _ i _=> n - (aK i).toNat);case atStart=> exact⟨0,rfl,rfl,bM _,Dr.refl w⟩
 case round=>
  obtain⟨k,rfl,rfl,hk,HB⟩:=hrel;by_cases hlt:k < n
  ·have HEk:=zq (HE.out k hlt _ HB.out);obtain⟨b,o,rfl, -⟩:=HR.out.at (i:=k) (by rw [HL.out];exact hlt) rfl;obtain⟨a1,a2,a3,a4⟩:=HC.out k;obtain⟨b1,b2,b3,b4⟩:=HC.out ((k + 1) % l.length);rw [show l.getD ((k + 1) % l.length) default=fF l k from rfl] at b1 b2 b3 b4;have ET:bK (jL l (k + 1)=jL l k + (l.getD k default).x * (fF l k).y - (fF l k).x * (l.getD k default).y):=rfl;have hb:=GO HC.out k;have m1:=Rj a1 a2 b3 b4;have m2:=Rj b1 b2 a3 a4;obtain⟨s,hs⟩:∃ s,l.getD k default=s:=⟨_,rfl⟩;rw [hs] at a1 a2 a3 a4 m1 m2 ET;have Hs:=zq hs;clear hs a1 a2 a3 a4 b1 b2 b3 b4;generalize jL l k=t at *;generalize fF l k=q at *;go_wp2_with fail
   refine HEk.out.mono ?_;rintro e W ⟨rfl,hb1⟩;have eC:=zq (HB.out.trans hb1);obtain⟨b',o',e1,c0,c1, -⟩:=(HR.out.below eC.out.below).at (i:=k) (by rw [HL.out];exact hlt) Hs.out;injection e1 with e1;injection e1 with e1 e2;subst e1 e2;clear hb1 HEk HB;go_wp2;have e1:IntKind.i64.wrap (s.x * q.y)=s.x * q.y:=bI _ (by omega);have e2:IntKind.i64.wrap (t + s.x * q.y)=t + s.x * q.y:=bI _ (by omega);have e3:IntKind.i64.wrap (q.x * s.y)=q.x * s.y:=bI _ (by omega);have e4:IntKind.i64.wrap (t + s.x * q.y - q.x * s.y)=t + s.x * q.y - q.x * s.y:=bI _ (by omega);go_quiet (fail)
   clear e1 e2 e3 e4;go_wp2;go_roundw;case rel=> exact⟨k + 1,by go_num,by rw [ET.out],by omega,eC.out.trans (.drewN _ _)⟩
   case measure=> simp only [aK];omega
  ·obtain rfl:n=k:=by omega
   go_wp2;go_ret;exact⟨rfl,HB.out⟩
def uT(l:List Sd)(i:Nat):Bool:= !decide (BQ l i*BQ l i+dY l i*dY l i=1)||decide (Ss l i=0)
def nP(l:List Sd):Bool:= !anyN (uT l) l.length&&decide (4≤l.length)
theorem XR(a:Option cO)(n cap:Nat)(l:List Sd)(w:aF)(hl:l.length=n)(hn:n≤1000)(hC:AH l)(r:kY w a l):
 bE aE 38 #[aD a n cap] w (Rt (aV (nP l)) w):=by
 have HD:=zq (fun k(hk:k<n)W(hW:Below w.heap.size w W)=>zH a n cap k l W hl (by omega) hk hC (r.below hW));have HT:=zq (fun k(hk:k<n)W(hW:Below w.heap.size w W)=>UM a n cap k l W hl (by omega) hk hC (r.below hW));have R1:bK (∀k,k<n→uT l k=true→nP l=false):=fun k hk h=>by unfold nP;rw[hl,eA.2 ⟨k,hk,h⟩];rfl
 have R2:bK (anyN (uT l) n=false→nP l=decide (4≤n)):=fun h=>by unfold nP;rw[hl,h];rfl
 clear hC r hl;generalize nP l=R at *;go_enter func38,ntmps38;go_wp2;go_loopw[3] (fun i wr=>∃k:Nat,i=aC aB k∧k≤n∧bK (anyN (uT l) k=false)∧bK (Below w.heap.size w wr)) (fun i _=>n-(aK i).toNat);case atStart=>exact⟨0,rfl,bM _,rfl,aL _ w⟩
 case round=>
  obtain⟨k,rfl,hk,HA,HB⟩:=hrel;by_cases hlt:k<n
  ·have HDk:=zq (HD.out k hlt _ HB.out);have qw:=zq (HT.out k hlt);have S1:=zq (R1.out k hlt);have S2:=zq (fun h:uT l k=false=>gH HA.out h);have hx: -1≤BQ l k∧BQ l k≤1:=pH _;have hy: -1≤dY l k∧dY l k≤1:=pH _;have E:bK (uT l k=(!decide (BQ l k*BQ l k+dY l k*dY l k=1)||decide (Ss l k=0))):=rfl;have px:0≤BQ l k*BQ l k∧BQ l k*BQ l k≤1:=by
    obtain h|h|h:BQ l k= -1∨BQ l k=0∨BQ l k=1:=by omega
    all_goals rw[h];decide
   have py:0≤dY l k*dY l k∧dY l k*dY l k≤1:=by
    obtain h|h|h:dY l k= -1∨dY l k=0∨dY l k=1:=by omega
    all_goals rw[h];decide
   generalize uT l k=B at *;generalize BQ l k=X at *;generalize dY l k=Y at *;generalize Ss l k=T at *;go_wp2_with fail
   refine HDk.out.mono ?_;rintro e W⟨rfl,hb1⟩;have eC:=zq (aQ HB.out hb1);clear hb1 HDk HB;by_cases h1:X*X+Y*Y=1
   ·have h1':(X*X+Y*Y !=1)=false:=by simp[h1]
    have h1'':((X*X+Y*Y)==1)=true:=by simp[h1]
    rw[decide_eq_true h1,Bool.not_true,oM]at E;clear h1;go_wp2_with fail
    refine(qw.out _ eC.out).mono ?_;rintro e W2⟨rfl,hb2⟩;have eT:=zq (aQ eC.out hb2);clear hb2;by_cases h2:T=0
    ·subst h2;have e1:=zq (S1.out (by rw[E.out];rfl));go_wp2;go_ret;exact⟨by rw[e1.out]<;>rfl,eT.out⟩
    ·have e1:=zq (S2.out (by rw[E.out,decide_eq_false h2]));have h2':(T==0)=false:=by simp[h2]
     go_wp2;go_roundw;case rel=>exact⟨k+1,by go_num,by omega,e1.out,eT.out⟩
     case measure=>simp only[aK];omega
   ·have h1':(X*X+Y*Y !=1)=true:=by simp[h1]
    have e1:=zq (S1.out (by rw[E.out,decide_eq_false h1];rfl));clear h1;go_wp2;go_ret;exact⟨by rw[e1.out]<;>rfl,eC.out⟩
  ·obtain rfl:n=k:=by omega
   have e1:=zq (R2.out HA.out);go_wp2;go_ret;exact⟨by rw[e1.out]<;>first |rfl|(congr 2;simp;omega),HB.out⟩
def BZ(a b:Int):Int:=if b<a then b else a
def B7(a b:Int):Int:=if a<b then b else a
def touI(a p b q:Sd):Bool:=decide (BZ a.x p.x≤B7 b.x q.x)&&(decide (BZ b.x q.x≤B7 a.x p.x)&&(decide (BZ a.y p.y≤B7 b.y q.y)&&decide (BZ b.y q.y≤B7 a.y p.y)))
def Kt(l:List Sd)(i:Nat)(m:List Sd)(k:Nat):Bool:=touI (l.getD i default) (fF l i) (m.getD k default) (fF m k)
theorem Bz{x y A:Int}(h:(if y<x then y else x)=A):min x y=A:=by rw[←h];simp only[Int.min_def];split <;>split <;>omega
theorem BA{x y A:Int}(h:(if x<y then y else x)=A):max x y=A:=by rw[←h];simp only[Int.max_def];split <;>split <;>omega
theorem jj(a b:Option cO)(n ca m cb i k:Nat)(l r:List Sd)(w:aF)(hl:l.length=n)(hr:r.length=m)(hn:n≤1000000)(hm:m≤1000000)(hi:i<n)(hk:k<m)(rl:kY w a l)(rr:kY w b r):
 bE aE 114 #[aD a n ca,aC aB (i:Int),aD b m cb,aC aB (k:Int)] w (Rt (aV (Kt l i r k)) w):=by
 have H1:=zq (Ri a n ca i l w hl hn hi rl);have H2:=zq (fun W(hW:Below w.heap.size w W)=>Ri b m cb k r W hr hm hk (rr.below hW));obtain⟨b1,o1,rfl,c0,c1,-⟩:=rl.at (i:=i) (by omega) rfl;obtain⟨b2,o2,rfl,d0,d1,-⟩:=rr.at (i:=k) (by omega) rfl;have E:bK (Kt l i r k=touI (l.getD i default) (fF l i) (r.getD k default) (fF r k)):=rfl;generalize Kt l i r k=T at *;generalize l.getD i default=s at *;generalize fF l i=p at *;generalize r.getD k default=t at *;generalize fF r k=q at *;obtain⟨A1,jk⟩:∃x,(if p.x<s.x then p.x else s.x)=x:=⟨_,rfl⟩;obtain⟨A2,hA2⟩:∃x,(if s.x<p.x then p.x else s.x)=x:=⟨_,rfl⟩;obtain⟨A3,hA3⟩:∃x,(if p.y<s.y then p.y else s.y)=x:=⟨_,rfl⟩;obtain⟨A4,hA4⟩:∃x,(if s.y<p.y then p.y else s.y)=x:=⟨_,rfl⟩;obtain⟨B1,FD⟩:∃x,(if q.x<t.x then q.x else t.x)=x:=⟨_,rfl⟩;obtain⟨B2,lM⟩:∃x,(if t.x<q.x then q.x else t.x)=x:=⟨_,rfl⟩;obtain⟨B3,Dw⟩:∃x,(if q.y<t.y then q.y else t.y)=x:=⟨_,rfl⟩;obtain⟨B4,Ov⟩:∃x,(if t.y<q.y then q.y else t.y)=x:=⟨_,rfl⟩;replace E:bK (T=(decide (A1≤B2)&&(decide (B1≤A2)&&(decide (A3≤B4)&&decide (B3≤A4))))):=by
  rw[←jk,←hA2,←hA3,←hA4,←FD,←lM,←Dw,←Ov];exact E
 have mA1:=Bz jk;have mA2:=BA hA2;have mA3:=Bz hA3;have mA4:=BA hA4;have mB1:=Bz FD;have mB2:=BA lM;have mB3:=Bz Dw;have mB4:=BA Ov;clear rl rr hl hr;go_enter func114,ntmps114;go_wp2_with fail
 refine H1.out.mono ?_;rintro e W⟨rfl,hb⟩;go_wp2_with fail
 refine(H2.out _ hb).mono ?_;rintro e W2⟨rfl,hb2⟩;have HB:=zq (cI (aL _ w|>.trans hb) hb2 hb.size);have c0:=bR HB.out c0;have c1:=bR HB.out c1;have d0:=bR HB.out d0;have d1:=bR HB.out d1;clear hb hb2 H1 H2;have hx:bK ((A1≤B2)=False∧T=false∨A1≤B2∧(B1≤A2)=False∧T=false∨A1≤B2∧B1≤A2∧(A3≤B4)=False∧T=false∨A1≤B2∧B1≤A2∧A3≤B4∧T=decide (B3≤A4)):=by
  rw[E.out];show _∨_;by_cases h1:A1≤B2<;>by_cases h2:B1≤A2<;>by_cases h3:A3≤B4<;>simp only[h1,h2,h3,decide_true,decide_false,vN,zT,true_and,false_and,and_true,and_false,or_true,or_false,false_or,true_or,eq_self_iff_true,not_true,not_false_eq_true]
 clear E;rcases hx.out with⟨h1,rfl⟩|⟨h1,h2,rfl⟩|⟨h1,h2,h3,rfl⟩|⟨h1,h2,h3,rfl⟩;all_goals
  clear hx;go_wp2;simp only[List.append_eq,cJ,dF];go_quiet (fail)
  go_wp2;go_ret;exact⟨rfl,eF HB.out _⟩
def jo(r s i k n:Nat):Bool:=decide (r=s)&&(decide (k≤i)||(decide (k=i+1)||(decide (i=0)&&decide (k+1=n))))
def Ku(f:Nat→List Sd)(r i s k:Nat):Bool:= !jo r s i k (f r).length&&Kt (f r) i (f s) k
def XT(f:Nat→List Sd)(r i s:Nat):Bool:=decide (r≤s)&&anyN (Ku f r i s) (f s).length
def crs2(f:Nat→List Sd)(N r i:Nat):Bool:=anyN (XT f r i) N
def crs1(f:Nat→List Sd)(N r:Nat):Bool:=anyN (crs2 f N r) (f r).length
def Db(f:Nat→List Sd)(N:Nat):Bool:=anyN (crs1 f N) N
theorem KY{f:Nat→List Sd}{N r i s k:Nat}(hr:r<N)(hi:i<(f r).length)(hs:s<N)(h:r≤s)(hk:k<(f s).length)(h4:Ku f r i s k=true):Db f N=true:=
 eA.2 ⟨r,hr,eA.2 ⟨i,hi,eA.2 ⟨s,hs,by unfold XT;rw[decide_eq_true h,eA.2 ⟨k,hk,h4⟩];rfl⟩⟩⟩
theorem BB{a b:Int}{p:Prop}[Decidable p](h:a=b↔p):(a==b)=decide p:=by rw[pI,beq_iff_eq,decide_eq_true_iff];exact h
def bF(rs:List Rg)(r:Nat):List Sd:=(rs.getD r default).ss
theorem UO (a:Option cO) (N cap:Nat) (rs:List Rg) (w:aF) (hl:rs.length=N) (hN:N≤1000) (hn:∀ r,(bF rs r).length≤1000) (rr:GN w a rs) :
 bE aE 39 #[aD a N cap] w (Rt (aV (Db (bF rs) N)) w):=by
 have HT:=zq (fun r i s k (_:r < N) (_:s < N) (hi:i < (bF rs r).length) (hk:k < (bF rs s).length) W (hW:Below w.heap.size w W)=>
  jj (rs.getD r default).a (rs.getD s default).a (bF rs r).length (rs.getD r default).cap (bF rs s).length (rs.getD s default).cap i k (bF rs r) (bF rs s) W rfl rfl (by have:=hn r;omega) (by have:=hn s;omega) hi hk
   ((rr.below hW).at (i:=r) (by omega) rfl).choose_spec.choose_spec.2.2 ((rr.below hW).at (i:=s) (by omega) rfl).choose_spec.choose_spec.2.2)
 have HR:=zq rr;have HL:=zq hl;have HN:=zq hn;have HX:bK (∀ r i s k,r < N→i < (bF rs r).length→s < N→r≤s→k < (bF rs s).length→Ku (bF rs) r i s k=true→Db (bF rs) N=true):=fun r i s k h1 h2 h3 h4 h5 h6=> KY h1 h2 h3 h4 h5 h6;have HX0:bK (anyN (crs1 (bF rs) N) N=false→Db (bF rs) N=false):=fun h=> h;clear hl rr hn;generalize Db (bF rs) N=R at *;go_enter func39,ntmps39;go_wp2;go_loopw [3] (fun i wr=> ∃ r:Nat,i=aC aB r∧r≤N∧bK (anyN (crs1 (bF rs) N) r=false)∧bK (Below w.heap.size w wr)) (fun i _=> N - (aK i).toNat);case atStart=> exact⟨0,rfl,bM _,rfl,aL _ w⟩
 case round=>
  obtain⟨r,rfl,hr,HA,HB⟩:=hrel;rename aF=> wr;by_cases hrN:r < N
  ·obtain⟨b,o,rfl,c0, -⟩:=(HR.out.below HB.out).at (i:=r) (by rw [HL.out];exact hrN) rfl;have JV:=HN.out r;obtain⟨n,JX⟩:=nm (bF rs r).length;have hnl' :(rs.getD r default).ss.length=n:=JX;rw [hnl'] at c0;rw [JX] at JV;have Sq:=zq JX;have hrI:(r:Int) < N:=by omega
   clear JX hnl';have HA0:bK (anyN (crs2 (bF rs) N r) 0=false):=rfl;go_wp2;go_loopw [4] (fun i wi=> ∃ q:Nat,i=aC aB q∧q≤n∧bK (anyN (crs2 (bF rs) N r) q=false)∧bK (Below wr.heap.size wr wi)) (fun i _=> n - (aK i).toNat);case atStart=> exact⟨0,rfl,bM _,HA0.out,aL _ wr⟩
   case round=>
    obtain⟨i,rfl,hi,Sj,eC⟩:=hrel;rename aF=> wi;have c0:=bR eC.out c0;by_cases hin:i < n
    ·have HA0:bK (anyN (XT (bF rs) r i) r=false):=by
      show _=_;rw [cP];intro s hs;unfold XT;rw [decide_eq_false (by omega)];rfl
     go_wp2;go_loopw [5] (fun j ws=> ∃ s:Nat,j=aC aB s∧r≤s∧s≤N∧bK (anyN (XT (bF rs) r i) s=false)∧bK (Below wr.heap.size wr ws)) (fun i _=> N - (aK i).toNat);case atStart=> exact⟨r,rfl,aH _,hr,HA0.out,eC.out⟩
     case round=>
      obtain⟨s,rfl,hrs,hs,NX,eT⟩:=hrel;rename aF=> ws;clear c0;by_cases hsN:s < N
      ·obtain⟨b',o',e1,d0, -⟩:=(HR.out.below (aQ HB.out eT.out)).at (i:=s) (by rw [HL.out];exact hsN) rfl;injection e1 with e1;injection e1 with e1 e2;subst e1 e2;obtain⟨b',o',e1,c0, -⟩:=(HR.out.below (aQ HB.out eT.out)).at (i:=r) (by rw [HL.out];exact hrN) rfl;injection e1 with e1;injection e1 with e1 e2;subst e1 e2;rw [show(rs.getD r default).ss.length=n from Sq.out] at c0;have zu:=HN.out s;obtain⟨m,IP⟩:=nm (bF rs s).length;have hml' :(rs.getD s default).ss.length=m:=IP;rw [hml'] at d0;rw [IP] at zu;have rq:=zq IP;have hsI:(s:Int) < N:=by omega
       clear IP hml';have HA0:bK (anyN (Ku (bF rs) r i s) 0=false):=rfl;go_wp2;go_loopw [6] (fun j wk=> ∃ k:Nat,j=aC aB k∧k≤m∧bK (anyN (Ku (bF rs) r i s) k=false)∧bK (Below ws.heap.size ws wk)) (fun i _=> m - (aK i).toNat);case atStart=> exact⟨0,rfl,bM _,HA0.out,aL _ ws⟩
       case round=>
        obtain⟨k,rfl,hk,HA3,HB3⟩:=hrel;rename aF=> wk;have c0:=bR HB3.out c0;have d0:=bR HB3.out d0;by_cases hkm:k < m
        ·have vL:=zq (aQ HB.out (aQ eT.out HB3.out));have qw:=zq (HT.out r i s k hrN hsN (by rw [Sq.out];exact hin) (by rw [rq.out];exact hkm) wk.drew vL.out.drew);rw [Sq.out,rq.out] at qw;have E:bK (Ku (bF rs) r i s k=(!jo r s i k n && Kt (bF rs r) i (bF rs s) k)):=by show _=_;rw [← Sq.out];rfl
         have X1:=zq (HX.out r i s k hrN (by rw [Sq.out];exact hin) hsN hrs (by rw [rq.out];exact hkm));have X2:=zq (fun h:Ku (bF rs) r i s k=false=> gH HA3.out h);have Zy:=zq (aQ eT.out HB3.out);generalize Kt (bF rs r) i (bF rs s) k=T at *;generalize Ku (bF rs) r i s k=C at *;generalize (rs.getD r default).a=ar at *;generalize (rs.getD s default).a=as' at *;generalize (rs.getD r default).cap=cr at *;generalize (rs.getD s default).cap=cs at *;have hx:bK ((((r:Int)==(s:Int))=false∨((r:Int)==(s:Int))=true∧¬ k≤i∧((k:Int)==(i:Int) + 1)=false∧(((i:Int)==0)=false∨((i:Int)==0)=true∧((k:Int)==(n:Int) - 1)=false))∧C=T∨
          (((r:Int)==(s:Int))=true∧(k≤i∨¬ k≤i∧(((k:Int)==(i:Int) + 1)=true∨((k:Int)==(i:Int) + 1)=false∧((i:Int)==0)=true∧((k:Int)==(n:Int) - 1)=true)))∧C=false):=by
          show _∨_;rw [E.out];unfold jo;rw [BB (a:=(r:Int)) (b:=s) (p:=r=s) (by omega),BB (a:=(k:Int)) (b:=(i:Int) + 1) (p:=k=i + 1) (by omega),BB (a:=(i:Int)) (b:=0) (p:=i=0) (by omega),BB (a:=(k:Int)) (b:=(n:Int) - 1) (p:=k + 1=n) (by omega)];by_cases g:k≤i
          ·cases decide (r=s) <;> simp [g]
          ·cases decide (r=s) <;> cases decide (k=i + 1) <;> cases decide (i=0) <;> cases decide (k + 1=n) <;> simp [g]
         clear E;rcases hx.out with ⟨hq,rfl⟩ | ⟨hq,rfl⟩
         ·rcases hq with h1 | ⟨h1,h2,h3,(h4 | ⟨h4,h5⟩)⟩;all_goals
           clear hx;go_wp2;go_still_tail 10,(by kernel_rfl);change wpList _ _ _ _ _ wk.drew;have gu:=zq Zy.out.drew;have JL:=zq HB3.out.drew;generalize wk.drew=W2 at *;go_wp2_with fail
           refine qw.out.mono ?_;rintro e W3 ⟨rfl,hb⟩;have HBe:=zq (aQ gu.out hb);have HBy:=zq (aQ JL.out hb);have HBz:=zq (aQ HB.out HBe.out);clear hb qw;cases C with
           | true=>
            have e1:=zq (X1.out rfl);go_wp2;go_ret;exact⟨by rw [e1.out] <;> rfl,HBz.out⟩
           | false=>
            have e1:=zq (X2.out rfl);go_wp2;go_roundw;case rel=> exact⟨k + 1,by go_num,by omega,e1.out,HBy.out⟩
            case measure=> simp only [aK];omega
         ·have e1:=zq (X2.out rfl);rcases hq with ⟨h1,(h2 | ⟨h2,(h3 | ⟨h3,h4,h5⟩)⟩)⟩;all_goals
           clear hx;go_wp2;go_roundw;case rel=> exact⟨k + 1,by go_num,by omega,e1.out,HB3.out⟩
           case measure=> simp only [aK];omega
        ·obtain rfl:m=k:=by omega
         have e1:=zq (gH (p:=XT (bF rs) r i) NX.out (by unfold XT;rw [rq.out,HA3.out,R8]));go_wp2;go_roundw;case rel=> exact⟨s + 1,by go_num,by omega,by omega,e1.out,aQ eT.out HB3.out⟩
         case measure=> simp only [aK];omega
      ·obtain rfl:N=s:=by omega
       have e1:=zq (gH (p:=crs2 (bF rs) N r) Sj.out NX.out);go_wp2;go_roundw;case rel=> exact⟨i + 1,by go_num,by omega,e1.out,eT.out⟩
       case measure=> simp only [aK];omega
    ·obtain rfl:n=i:=by omega
     have e1:=zq (gH (p:=crs1 (bF rs) N) HA.out (by unfold crs1;rw [Sq.out];exact Sj.out));go_wp2;go_roundw;case rel=> exact⟨r + 1,by go_num,by omega,e1.out,aQ HB.out eC.out⟩
     case measure=> simp only [aK];omega
  ·obtain rfl:N=r:=by omega
   have e1:=zq (HX0.out HA.out);go_wp2;go_ret;exact⟨by rw [e1.out] <;> rfl,HB.out⟩
def gabI(a b:Sd):Bool:=a.gable||(b.gable||a.plate !=b.plate)
def EA(l:List Sd)(i:Nat):Bool:=decide (Ss l i<0)&&gabI (l.getD (pre l.length i) default) (l.getD i default)
def MN(f:Nat→List Sd)(r:Nat):Bool:=anyN (EA (f r)) (f r).length
def B8(l:List Sd)(i:Nat):Bool:= !(l.getD i default).gable
def BC(f:Nat→List Sd)(r:Nat):Bool:=anyN (B8 (f r)) (f r).length
def Fo(f:Nat→List Sd)(N:Nat):Bool:= !anyN (MN f) N&&anyN (BC f) N
theorem Jf{w:aF}{c1 c2:Array aP}{T1 T2:dT}:bT ((w.alloc (aN c1 T1)).alloc (aN c2 T2)).drew w.heap.size c1 T1∧bT ((w.alloc (aN c1 T1)).alloc (aN c2 T2)).drew (w.heap.size+1) c2 T2∧Below w.heap.size w ((w.alloc (aN c1 T1)).alloc (aN c2 T2)).drew:=by
 have:=bT.new (w.alloc (aN c1 T1)) c2 T2;rw[bH]at this;exact⟨(bT.new w _ _).alloc _,this,(((aL _ _).alloc (aH _) _).alloc (by simp) _).drew⟩
theorem XU (a:Option cO) (N cap:Nat) (rs:List Rg) (w:aF) (hl:rs.length=N) (hN:N≤1000) (hn:∀ r,(bF rs r).length≤1000) (hC:∀ r,AH (bF rs r)) (rr:GN w a rs) :
 bE aE 41 #[aD a N cap] w (Rt (aV (Fo (bF rs) N)) w):=by
 have HT:=zq (fun r i (_:r < N) (hi:i < (bF rs r).length) W (hW:Below w.heap.size w W)=> UM (rs.getD r default).a (bF rs r).length (rs.getD r default).cap i (bF rs r) W rfl (by have:=hn r;omega) hi (hC r) ((rr.below hW).at (i:=r) (by omega) rfl).choose_spec.choose_spec.2.2);have HR:=zq rr;have HL:=zq hl;have HN:=zq hn;have X1:bK (∀ r,r < N→MN (bF rs) r=true→Fo (bF rs) N=false):=fun r hr h=> by unfold Fo;rw [eA.2 ⟨r,hr,h⟩];rfl
 have X2:bK (anyN (MN (bF rs)) N=false→Fo (bF rs) N=anyN (BC (bF rs)) N):=fun h=> by unfold Fo;rw [h];rfl
 clear hl rr hn hC;generalize Fo (bF rs) N=R at *;go_enter func41,ntmps41;go_wp2;go_loopw [3,4] (fun t i wr=> ∃ r:Nat,i=aC aB r∧t=aV (anyN (BC (bF rs)) r)∧r≤N∧bK (anyN (MN (bF rs)) r=false)∧bK (Below w.heap.size w wr)) (fun _ i _=> N - (aK i).toNat);case atStart=> exact⟨0,rfl,rfl,bM _,rfl,aL _ w⟩
 case round=>
  obtain⟨r,rfl,rfl,hr,HA,HB⟩:=hrel;rename aF=> wr;by_cases hrN:r < N
  ·obtain⟨b,o,rfl,c0,Pn⟩:=(HR.out.below HB.out).at (i:=r) (by rw [HL.out];exact hrN) rfl;have ED:=zq Pn;clear Pn;have JV:=HN.out r;have Nu:=zq (HT.out r);have X1r:=zq (X1.out r hrN);have X3:=zq (fun h:MN (bF rs) r=false=> gH (p:=MN (bF rs)) HA.out h);have E1:bK (MN (bF rs) r=anyN (EA (bF rs r)) (bF rs r).length):=rfl;have E2:bK (anyN (BC (bF rs)) (r + 1)=(anyN (BC (bF rs)) r || anyN (B8 (bF rs r)) (bF rs r).length)):=rfl;rw [show(rs.getD r default).ss.length=(bF rs r).length from rfl] at c0;rw [show(rs.getD r default).ss=bF rs r from rfl] at ED;obtain⟨S2,uP⟩:=nm (anyN (BC (bF rs)) (r + 1));have HS2:=zq uP;rw [uP] at E2;clear uP;generalize anyN (BC (bF rs)) r=S1 at *;generalize (rs.getD r default).a=ar at *;generalize (rs.getD r default).cap=cr at *;have E3:bK (∀ i,EA (bF rs r) i=(decide (Ss (bF rs r) i < 0) && gabI ((bF rs r).getD (pre (bF rs r).length i) default) ((bF rs r).getD i default))):=fun i=> rfl;generalize bF rs r=l at *;obtain⟨n,hn⟩:=nm l.length;have Hn:=zq hn;rw [hn] at c0 JV Nu E1 E2 E3;clear hn;have hrI:(r:Int) < N:=by omega
   have HZ:bK (S1=(S1 || anyN (B8 l) 0)):=by show _=_;simp [anyN]
   go_wp2;go_loopw [3,6] (fun t i wi=> ∃ k:Nat,i=aC aB k∧t=aV (S1 || anyN (B8 l) k)∧k≤n∧bK (anyN (EA l) k=false)∧bK (Below wr.heap.size wr wi)) (fun _ i _=> n - (aK i).toNat);case atStart=> exact⟨0,rfl,by rw [← HZ.out],bM _,rfl,aL _ wr⟩
   case round=>
    obtain⟨k,rfl,rfl,hk,NX,eT⟩:=hrel;rename aF=> wi;by_cases hkn:k < n
    ·have qw:=zq (Nu.out k hrN hkn);have hpk:=Je hkn;have htm:=MK hkn;have E3k:=zq (E3.out k);have X4:=zq (fun h:EA l k=true=> X1r.out (by rw [E1.out];exact eA.2 ⟨k,hkn,h⟩));have X5:=zq (fun h:EA l k=false=> gH (p:=EA l) NX.out h);have E4:bK ((S1 || anyN (B8 l) (k + 1))=((S1 || anyN (B8 l) k) || !(l.getD k default).gable)):=by show _=_;rw [anyN,Bool.or_assoc];rfl
     obtain⟨S4,hS4⟩:=nm (S1 || anyN (B8 l) (k + 1));have HS4:=zq hS4;rw [hS4] at E4;clear hS4;generalize (S1 || anyN (B8 l) k)=S3 at *;obtain⟨pb,po,rfl,f0,f1,f2,f3,f4,f5,f6⟩:=(ED.out.below eT.out).at (i:=pre n k) (by rw [Hn.out];exact hpk) rfl;obtain⟨pb',po',e1,g0,g1,g2,g3,g4,g5,g6⟩:=(ED.out.below eT.out).at (i:=k) (by rw [Hn.out];exact hkn) rfl;injection e1 with e1;injection e1 with e1 e2;subst e1 e2;generalize l.getD k default=q at *;generalize l.getD (pre n k) default=p at *;obtain⟨p0,p1,p2,p3,p4,p5,p6⟩:=p;obtain⟨q0,q1,q2,q3,q4,q5,q6⟩:=q;simp only [] at f0 f1 f2 f3 f4 f5 f6 g0 g1 g2 g3 g4 g5 g6;replace E3k:bK (EA l k=(decide (Ss l k < 0) && (p4 || (q4 || p5 !=q5)))):=E3k;replace E4:bK (S4=(S3 || !q4)):=E4;generalize EA l k=B at *;generalize Ss l k=T at *;generalize pre n k=m at *;have lpb:pb < wi.heap.size:=bB wi ⟨pb,_,none⟩ f0;have Bl:=zq (aQ HB.out eT.out);go_wp2;have w1:IntKind.i64.wrap ((k:Int) + n)=(k:Int) + n:=bI _ (by omega);have w2:IntKind.i64.wrap ((k:Int) + n - 1)=(k:Int) + n - 1:=bI _ (by omega);have w3:(m:Int) < n:=by omega
     have w4:(0:Int)≤(m:Int):=by omega
     have w5:((n:Int)==0)=false:=by rw [beq_eq_false_iff_ne];omega
     have w6:(0:Int) < n:=by omega
     have w7:¬ n=0:=by omega
     have w8:¬ ((n:Int)=0):=by omega
     go_cut [7,8] (fun u v W=> ∃ g h,u=aY (some ⟨g,0,none⟩)∧v=aY (some ⟨h,0,none⟩)∧bK (bT W g #[aC aB p0,aC aB p1,aC aB p2,aC aB p3,aV p4,aC aB p5,aC aB p6] 56)∧bK (bT W h #[aC aB q0,aC aB q1,aC aB q2,aC aB q3,aV q4,aC aB q5,aC aB q6] 56)∧bK (Below wi.heap.size wi W));case first=>
      go_region_held3 (fun w' => (w'.cell? ⟨pb,po + m * 7,none⟩=some (aC aB p0)∧w'.cell? ⟨pb,po + m * 7 + 1,none⟩=some (aC aB p1)∧w'.cell? ⟨pb,po + m * 7 + 2,none⟩=some (aC aB p2)∧w'.cell? ⟨pb,po + m * 7 + 3,none⟩=some (aC aB p3)∧w'.cell? ⟨pb,po + m * 7 + 4,none⟩=some (aV p4)∧w'.cell? ⟨pb,po + m * 7 + 5,none⟩=some (aC aB p5)∧w'.cell? ⟨pb,po + m * 7 + 6,none⟩=some (aC aB p6))∧(w'.cell? ⟨pb,po + k * 7,none⟩=some (aC aB q0)∧w'.cell? ⟨pb,po + k * 7 + 1,none⟩=some (aC aB q1)∧w'.cell? ⟨pb,po + k * 7 + 2,none⟩=some (aC aB q2)∧w'.cell? ⟨pb,po + k * 7 + 3,none⟩=some (aC aB q3)∧w'.cell? ⟨pb,po + k * 7 + 4,none⟩=some (aV q4)∧w'.cell? ⟨pb,po + k * 7 + 5,none⟩=some (aC aB q5)∧w'.cell? ⟨pb,po + k * 7 + 6,none⟩=some (aC aB q6))) (go_keep) (fail)
      all_goals
       clear w1 w2;go_wp2;go_meet;case rel=>
        first
         | exact⟨_,_,rfl,rfl,Jf.1,Jf.2.1,Jf.2.2⟩
         | exact⟨_,_,rfl,rfl,Jf.2.1,Jf.1,Jf.2.2⟩
         | fail
     case rest=>
     clear w1 w2 w3 w4 w5 w6 w7 w8 f0 f1 f2 f3 f4 f5 f6 g0 g1 g2 g3 g4 g5 g6 lpb htm;obtain⟨g,h,rfl,rfl,HG,HH,zU⟩:=hcut;rename aF=> W7;have Ig:=zq (aQ Bl.out zU.out);have JL:=zq (aQ eT.out zU.out);go_wp2_with fail
     refine(qw.out _ Ig.out).mono ?_;rintro e W8 ⟨rfl,hb⟩;have HBy:=zq (aQ JL.out hb);have HB8:=zq (aQ Ig.out hb);have hg:=HG.out.below hb HG.out.lt;have hh:=HH.out.below hb HH.out.lt;have g4:=hg.cell 4;have g5:=hg.cell 5;have h4:=hh.cell 4;have h5:=hh.cell 5;simp only [aJ,aI,bC] at g4 g5 h4 h5;have lg:=hg.lt;have lh:=hh.lt;clear hb hg hh qw HG HH JL Ig Bl zU;by_cases ht:T < 0
     ·rw [decide_eq_true ht,vN] at E3k;have hx:bK (p4=true∧B=true∨p4=false∧q4=true∧B=true∨p4=false∧q4=false∧(p5==q5)=false∧B=true∨p4=false∧q4=false∧(p5==q5)=true∧B=false):=by
       show _∨_;rw [E3k.out];unfold bne;cases p4 <;> cases q4 <;> cases p5==q5 <;> simp
      clear E3k;have IL:bK (B=true∧(p4=true∨p4=false∧q4=true∨p4=false∧q4=false∧(p5 !=q5)=true)∨B=false∧p4=false∧q4=false∧(p5 !=q5)=false):=by
       unfold bne;rcases hx.out with ⟨h,h'⟩ | ⟨h,h2,h'⟩ | ⟨h,h2,h3,h'⟩ | ⟨h,h2,h3,h'⟩
       ·exact .inl ⟨h', .inl h⟩
       ·exact .inl ⟨h', .inr (.inl ⟨h,h2⟩)⟩
       ·exact .inl ⟨h', .inr (.inr ⟨h,h2,by rw [h3];rfl⟩)⟩
       ·exact .inr ⟨h',h,h2,by rw [h3];rfl⟩
      clear hx;rcases IL.out with ⟨rfl,hq⟩ | ⟨rfl,rfl,rfl,h2⟩
      ·have e1:=zq (X4.out rfl);rcases hq with rfl | ⟨rfl,rfl⟩ | ⟨rfl,rfl,h2⟩;all_goals
        clear IL;go_wp2;go_ret;exact⟨by rw [e1.out] <;> rfl,HB8.out⟩
      ·have e1:=zq (X5.out rfl);clear IL;cases S3 with
       | true=>
        go_wp2;go_roundw;case rel=> exact⟨k + 1,by go_num,by rw [HS4.out,E4.out] <;> rfl,by omega,e1.out,HBy.out⟩
        case measure=> simp only [aK];omega
       | false=>
        go_wp2;go_roundw;case rel=> exact⟨k + 1,by go_num,by rw [HS4.out,E4.out] <;> rfl,by omega,e1.out,HBy.out⟩
        case measure=> simp only [aK];omega
     ·rw [decide_eq_false ht,zT] at E3k;have e1:=zq (X5.out E3k.out);clear E3k X4 X5;cases S3 with
      | true=>
       go_wp2;go_roundw;case rel=> exact⟨k + 1,by go_num,by rw [HS4.out,E4.out] <;> rfl,by omega,e1.out,HBy.out⟩
       case measure=> simp only [aK];omega
      | false=>
       go_wp2;go_roundw;case rel=> exact⟨k + 1,by go_num,by rw [HS4.out,E4.out] <;> first | rfl | simp,by omega,e1.out,HBy.out⟩
       case measure=> simp only [aK];omega
    ·obtain rfl:n=k:=by omega
     have e1:=zq (X3.out (by rw [E1.out];exact NX.out));have e2:bK (S2=(S1 || anyN (B8 l) n)):=E2;go_wp2;go_roundw;case rel=> exact⟨r + 1,by go_num,by rw [HS2.out,e2.out],by omega,e1.out,aQ HB.out eT.out⟩
     case measure=> simp only [aK];omega
  ·obtain rfl:N=r:=by omega
   have e1:=zq (X2.out HA.out);go_wp2;go_ret;exact⟨by rw [e1.out] <;> rfl,HB.out⟩
abbrev GP(p s q:Sd):Array aP:= #[aC aB p.x,aC aB p.y,aC aB p.rise,aC aB p.run,aV p.gable,aC aB p.plate,aC aB p.over,aC aB s.x,aC aB s.y,aC aB s.rise,aC aB s.run,aV s.gable,aC aB s.plate,aC aB s.over,aC aB q.x,aC aB q.y,aC aB q.rise,aC aB q.run,aV q.gable,aC aB q.plate,aC aB q.over]
abbrev si(x y:Int):aP:=cF #[aC aB x,aC aB y]
theorem mA(s:Sd)(w:aF):bE aE 91 #[s.v] w (Rt (si s.x s.y) w):=by
 obtain⟨x,y,rise,run,gable,plate,over⟩:=s;unfold Sd.v Sd.cells;simp only[];have eC:=zq (((aL _ w).alloc (aH _) (aN #[aC aB x,aC aB y,aC aB rise,aC aB run,aV gable,aC aB plate,aC aB over] 56)).alloc (by simp) (aN #[aC aB x,aC aB y] 142));go_enter func91,ntmps91;go_wp2;exact dU (v:=si x y) (by simp[lF,Tryz.results91,go_sem]) rfl ⟨rfl,eC.out⟩
theorem k14{W W':aF}(hb:Below W.heap.size W W'){B:Nat}{v0 v1 v2 v3 v4 v5 v6 v7 v8 v9 v10 v11 v12 v13:aP}(h:W.cell? ⟨B,7,none⟩=some v0∧W.cell? ⟨B,8,none⟩=some v1∧W.cell? ⟨B,9,none⟩=some v2∧W.cell? ⟨B,10,none⟩=some v3∧W.cell? ⟨B,11,none⟩=some v4∧W.cell? ⟨B,12,none⟩=some v5∧W.cell? ⟨B,13,none⟩=some v6∧W.cell? ⟨B,14,none⟩=some v7∧W.cell? ⟨B,15,none⟩=some v8∧W.cell? ⟨B,16,none⟩=some v9∧W.cell? ⟨B,17,none⟩=some v10∧W.cell? ⟨B,18,none⟩=some v11∧W.cell? ⟨B,19,none⟩=some v12∧W.cell? ⟨B,20,none⟩=some v13):
 W'.cell? ⟨B,7,none⟩=some v0∧W'.cell? ⟨B,8,none⟩=some v1∧W'.cell? ⟨B,9,none⟩=some v2∧W'.cell? ⟨B,10,none⟩=some v3∧W'.cell? ⟨B,11,none⟩=some v4∧W'.cell? ⟨B,12,none⟩=some v5∧W'.cell? ⟨B,13,none⟩=some v6∧W'.cell? ⟨B,14,none⟩=some v7∧W'.cell? ⟨B,15,none⟩=some v8∧W'.cell? ⟨B,16,none⟩=some v9∧W'.cell? ⟨B,17,none⟩=some v10∧W'.cell? ⟨B,18,none⟩=some v11∧W'.cell? ⟨B,19,none⟩=some v12∧W'.cell? ⟨B,20,none⟩=some v13:=⟨bR hb h.1,bR hb h.2.1,bR hb h.2.2.1,bR hb h.2.2.2.1,bR hb h.2.2.2.2.1,bR hb h.2.2.2.2.2.1,bR hb h.2.2.2.2.2.2.1,bR hb h.2.2.2.2.2.2.2.1,bR hb h.2.2.2.2.2.2.2.2.1,bR hb h.2.2.2.2.2.2.2.2.2.1,bR hb h.2.2.2.2.2.2.2.2.2.2.1,bR hb h.2.2.2.2.2.2.2.2.2.2.2.1,bR hb h.2.2.2.2.2.2.2.2.2.2.2.2.1,bR hb h.2.2.2.2.2.2.2.2.2.2.2.2.2⟩
theorem MO{w W:aF}{c1 c2:Array aP}{T1 T2:dT}(h:(w.alloc (aN c1 T1)).alloc (aN c2 T2)=W):bT W w.heap.size c1 T1∧bT W (w.heap.size+1) c2 T2∧Below w.heap.size w W:=by
 subst h;have:=bT.new (w.alloc (aN c1 T1)) c2 T2;rw[bH]at this;exact⟨(bT.new w _ _).alloc _,this,((aL _ _).alloc (aH _) _).alloc (by simp) _⟩
def K7(n:Int):Prop:= -131072≤n∧n≤131072
theorem pl_to(a b c d:Int)(w:aF)(h1:K7 a)(h2:K7 b)(h3:K7 c)(h4:K7 d):bE aE 127 #[si a b,si c d] w (Rt (si (c-a) (d-b)) w):=by
 unfold K7 at *;obtain⟨h1,h1'⟩:=h1;obtain⟨h2,h2'⟩:=h2;obtain⟨h3,h3'⟩:=h3;obtain⟨h4,h4'⟩:=h4;have eC:=zq ((((aL _ w).alloc (aH _) (aN #[aC aB a,aC aB b] 142)).alloc (by simp) (aN #[aC aB c,aC aB d] 142)).alloc (by simp;omega) (aN #[aC aB (c-a),aC aB (d-b)] 142));go_enter func127,ntmps127;go_wp2;exact dU (v:=si (c-a) (d-b)) (by simp[lF,Tryz.results127,go_sem]) rfl ⟨rfl,eC.out⟩
theorem sm_mul{a b:Int}(h1:K7 a)(h2:K7 b): -17179869184≤a*b∧a*b≤17179869184:=by
 unfold K7 at *;have key:∀x y:Int,0≤x→x≤131072→0≤y→y≤131072→0≤x*y∧x*y≤17179869184:=fun x y k1 k2 k3 k4=>⟨nE k1 k3,by have:=vO k2 k4 k3 (by decide:(0:Int)≤131072);omega⟩;rcases Int.le_total 0 a with ha|ha<;>rcases Int.le_total 0 b with hb|hb
 ·have:=key a b ha h1.2 hb h2.2;omega
 ·have:=key a (-b) ha h1.2 (by omega) (by omega);rw[Int.mul_neg]at this;omega
 ·have:=key (-a) b (by omega) (by omega) hb h2.2;rw[Int.neg_mul]at this;omega
 ·have:=key (-a) (-b) (by omega) (by omega) (by omega) (by omega);rw[Int.neg_mul_neg]at this;omega
theorem UP(a b c d:Int)(w:aF)(h1:K7 a)(h2:K7 b)(h3:K7 c)(h4:K7 d):bE aE 92 #[si a b,si c d] w (Rt (aC aB (a*d-b*c)) w):=by
 obtain⟨m1,m1'⟩:=sm_mul h1 h4;obtain⟨m2,m2'⟩:=sm_mul h2 h3;clear h1 h2 h3 h4;have eC:=zq (((aL _ w).alloc (aH _) (aN #[aC aB a,aC aB b] 142)).alloc (by simp) (aN #[aC aB c,aC aB d] 142));go_enter func92,ntmps92;go_wp2;go_ret;exact⟨rfl,eC.out⟩
theorem XW(p s q:Sd)(w:aF)(h1:K7 s.x)(h2:K7 s.y)(h3:K7 q.x)(h4:K7 q.y):bE aE 128 #[cF (GP p s q)] w (Rt (si (q.x-s.x) (q.y-s.y)) w):=by
 have XX:=zq (fun W=>mA s W);have HCq:=zq (fun W=>mA q W);have HTo:=zq (fun W=>pl_to s.x s.y q.x q.y W h1 h2 h3 h4);obtain⟨p0,p1,p2,p3,p4,p5,p6⟩:=p;obtain⟨s0,s1,s2,s3,s4,s5,s6⟩:=s;obtain⟨q0,q1,q2,q3,q4,q5,q6⟩:=q;unfold GP;unfold Sd.v Sd.cells at XX HCq;simp only[]at XX HCq HTo⊢;clear h1 h2 h3 h4;go_enter func128,ntmps128;go_wp2;obtain⟨W,hW⟩:=nm ((w.alloc (aN #[aC aB p0,aC aB p1,aC aB p2,aC aB p3,aV p4,aC aB p5,aC aB p6,aC aB s0,aC aB s1,aC aB s2,aC aB s3,aV s4,aC aB s5,aC aB s6,aC aB q0,aC aB q1,aC aB q2,aC aB q3,aV q4,aC aB q5,aC aB q6] 140)).alloc (aN #[aC aB 0,aC aB 0] 142));obtain⟨hb,hs,hB⟩:=MO hW;rw[hW];clear hW;have HB:=zq hB;have HS:=zq hs;have c0:=hb.cell 7;have c1:=hb.cell 8;have c2:=hb.cell 9;have c3:=hb.cell 10;have c4:=hb.cell 11;have c5:=hb.cell 12;have c6:=hb.cell 13;have d0:=hb.cell 14;have d1:=hb.cell 15;have d2:=hb.cell 16;have d3:=hb.cell 17;have d4:=hb.cell 18;have d5:=hb.cell 19;have d6:=hb.cell 20;simp only[aJ,aI,bC]at c0 c1 c2 c3 c4 c5 c6 d0 d1 d2 d3 d4 d5 d6;have lt:=hb.lt;clear hb hs hB;generalize hBe:w.heap.size=B at *;have HBe:=zq hBe;clear hBe;go_region_held3 (fun w'=>w'.cell? ⟨B,7,none⟩=some (aC aB s0)∧w'.cell? ⟨B,8,none⟩=some (aC aB s1)∧w'.cell? ⟨B,9,none⟩=some (aC aB s2)∧w'.cell? ⟨B,10,none⟩=some (aC aB s3)∧w'.cell? ⟨B,11,none⟩=some (aV s4)∧w'.cell? ⟨B,12,none⟩=some (aC aB s5)∧w'.cell? ⟨B,13,none⟩=some (aC aB s6)∧
  w'.cell? ⟨B,14,none⟩=some (aC aB q0)∧w'.cell? ⟨B,15,none⟩=some (aC aB q1)∧w'.cell? ⟨B,16,none⟩=some (aC aB q2)∧w'.cell? ⟨B,17,none⟩=some (aC aB q3)∧w'.cell? ⟨B,18,none⟩=some (aV q4)∧w'.cell? ⟨B,19,none⟩=some (aC aB q5)∧w'.cell? ⟨B,20,none⟩=some (aC aB q6)) (first |assumption|go_keep)
  (first
   |(go_at_call 91;(with_reducible refine(XX.out _).mono ?_);rintro e W1 ⟨rfl,hb1⟩;have fg:=k14 hb1 (B:=B) (by first |assumption|(refine⟨?_,?_,?_,?_,?_,?_,?_,?_,?_,?_,?_,?_,?_,?_⟩<;>(simp only[*];done)));have HS:=zq (show bT W1 _ _ _ from(hb1.block _ HS.out.lt).trans HS.out))
   |(go_at_call 91;(with_reducible refine(HCq.out _).mono ?_);rintro e W2 ⟨rfl,hb2⟩;have hk2:=k14 hb2 (B:=B) (by first |assumption|(refine⟨?_,?_,?_,?_,?_,?_,?_,?_,?_,?_,?_,?_,?_,?_⟩<;>(simp only[*];done)));have HS:=zq (show bT W2 _ _ _ from(hb2.block _ HS.out.lt).trans HS.out))
   |(go_at_call 127;(with_reducible refine(HTo.out _).mono ?_);rintro e W3 ⟨rfl,hb3⟩;have hk3:=k14 hb3 (B:=B) (by first |assumption|(refine⟨?_,?_,?_,?_,?_,?_,?_,?_,?_,?_,?_,?_,?_,?_⟩<;>(simp only[*];done)));have HS:=zq (show bT W3 _ _ _ from(hb3.block _ HS.out.lt).trans HS.out);have z0:=HS.out.fz 0;have z1:=HS.out.fz 1;have e0:=HS.out.cell 0;have e1:=HS.out.cell 1;simp only[aJ,aI,bC]at e0 e1)
   |fail)
 go_wp2;have hBe:=HBe.out;subst hBe;have hq:=(HS.out.set 0 (aC aB (q0-s0))).set 1 (aC aB (q1-s1));have hc:=aQ (aQ (aQ (aL _ W).drew hb1) hb2) hb3;have lM:=((HB.out.trans (hc.mono HB.out.size)).setCell (p:=⟨w.heap.size+1,0,none⟩) (Hv _) (aC aB (q0-s0))).setCell (p:=⟨w.heap.size+1,1,none⟩) (Hv _) (aC aB (q1-s1));generalize(W3.setCell ⟨w.heap.size+1,0,none⟩ (aC aB (q0-s0))).setCell ⟨w.heap.size+1,1,none⟩ (aC aB (q1-s1))=V at *;have f0:=hq.cell 0;have f1:=hq.cell 1;simp only[aM,aT,aW,aJ,aI,bC]at f0 f1;exact dU (v:=si (q0-s0) (q1-s1)) (by simp[lF,Tryz.results128,go_sem,f0,f1]) rfl ⟨rfl,lM⟩
def UQ(p s q:Sd):Bool:=decide (0<(s.x-p.x)*(q.y-s.y)-(s.y-p.y)*(q.x-s.x))
def C1(s:Sd):Prop:=0≤s.x∧s.x≤65536∧0≤s.y∧s.y≤65536
theorem C1.x{s:Sd}(h:C1 s):K7 s.x:=by unfold C1 at h;unfold K7;omega
theorem C1.y{s:Sd}(h:C1 s):K7 s.y:=by unfold C1 at h;unfold K7;omega
theorem C1.dx{s t:Sd}(h:C1 s)(k:C1 t):K7 (s.x-t.x):=by unfold C1 at h k;unfold K7;omega
theorem C1.dy{s t:Sd}(h:C1 s)(k:C1 t):K7 (s.y-t.y):=by unfold C1 at h k;unfold K7;omega
theorem pl_left(p s q:Sd)(w:aF)(hp:C1 p)(hs:C1 s)(hq:C1 q):bE aE 132 #[cF (GP p s q)] w (Rt (aV (UQ p s q)) w):=by
 have HCp:=zq (fun W=>mA p W);have XX:=zq (fun W=>mA s W);have HTo:=zq (fun W=>pl_to p.x p.y s.x s.y W hp.x hp.y hs.x hs.y);have HW:=zq (fun W=>XW p s q W hs.x hs.y hq.x hq.y);have HX:=zq (fun W=>UP (s.x-p.x) (s.y-p.y) (q.x-s.x) (q.y-s.y) W (hs.dx hp) (hs.dy hp) (hq.dx hs) (hq.dy hs));have E:bK (UQ p s q=decide (0<(s.x-p.x)*(q.y-s.y)-(s.y-p.y)*(q.x-s.x))):=rfl;clear hp hs hq;generalize UQ p s q=R at *;obtain⟨p0,p1,p2,p3,p4,p5,p6⟩:=p;obtain⟨s0,s1,s2,s3,s4,s5,s6⟩:=s;obtain⟨q0,q1,q2,q3,q4,q5,q6⟩:=q;unfold GP at HW⊢;unfold Sd.v Sd.cells at HCp XX;simp only[]at HCp XX HTo HW HX E⊢;generalize(s0-p0)*(q1-s1)-(s1-p1)*(q0-s0)=X at *;go_enter func132,ntmps132;go_wp2;have hb:=bT.new w #[aC aB p0,aC aB p1,aC aB p2,aC aB p3,aV p4,aC aB p5,aC aB p6,aC aB s0,aC aB s1,aC aB s2,aC aB s3,aV s4,aC aB s5,aC aB s6,aC aB q0,aC aB q1,aC aB q2,aC aB q3,aV q4,aC aB q5,aC aB q6] 140;obtain⟨W,hW⟩:=nm (w.alloc (aN #[aC aB p0,aC aB p1,aC aB p2,aC aB p3,aV p4,aC aB p5,aC aB p6,aC aB s0,aC aB s1,aC aB s2,aC aB s3,aV s4,aC aB s5,aC aB s6,aC aB q0,aC aB q1,aC aB q2,aC aB q3,aV q4,aC aB q5,aC aB q6] 140));have hB:=(aL _ w).alloc (aH _) (aN #[aC aB p0,aC aB p1,aC aB p2,aC aB p3,aV p4,aC aB p5,aC aB p6,aC aB s0,aC aB s1,aC aB s2,aC aB s3,aV s4,aC aB s5,aC aB s6,aC aB q0,aC aB q1,aC aB q2,aC aB q3,aV q4,aC aB q5,aC aB q6] 140);rw[hW]at hb hB⊢;clear hW;have HB:=zq hB;clear hB;have lW:=hb.lt;refine qU 12 (fun _=>.quiet) (fun w'=>bT w' w.heap.size #[aC aB p0,aC aB p1,aC aB p2,aC aB p3,aV p4,aC aB p5,aC aB p6,aC aB s0,aC aB s1,aC aB s2,aC aB s3,aV s4,aC aB s5,aC aB s6,aC aB q0,aC aB q1,aC aB q2,aC aB q3,aV q4,aC aB q5,aC aB q6] 140) hb ?_ (st:=fun w1 w2 h hb=>h.below hb lW);clear hb;refine qS 0 rfl (pu ?_);refine qL 1 w.heap.size 0 #[aC aB p0,aC aB p1,aC aB p2,aC aB p3,aV p4,aC aB p5,aC aB p6] (fun _ h=>h.1) rfl (pu ?_);refine qC 2 (fun W _=>HCp.out W) rfl (pu ?_);refine qS 3 rfl (pu ?_);refine qL 4 w.heap.size 7 #[aC aB s0,aC aB s1,aC aB s2,aC aB s3,aV s4,aC aB s5,aC aB s6] (fun _ h=>h.1) rfl (pu ?_);refine qC 5 (fun W _=>XX.out W) rfl (pu ?_);refine qC 6 (fun W _=>HTo.out W) rfl (pu ?_);refine qL 7 w.heap.size 0 #[aC aB p0,aC aB p1,aC aB p2,aC aB p3,aV p4,aC aB p5,aC aB p6,aC aB s0,aC aB s1,aC aB s2,aC aB s3,aV s4,aC aB s5,aC aB s6,aC aB q0,aC aB q1,aC aB q2,aC aB q3,aV q4,aC aB q5,aC aB q6] (fun _ h=>h.1) rfl (pu ?_);refine qC 8 (fun W _=>HW.out W) rfl (pu ?_);refine qC 9 (fun W _=>HX.out W) rfl (pu ?_);refine qS 10 rfl (pu ?_);refine qS 11 rfl (pu ?_);refine qE fun W1 rS _=>?_;have eC:=zq (aQ HB.out rS.b);clear rS HB;go_wp2;go_ret;exact⟨by rw[E.out]<;>rfl,eC.out⟩
end
section
open Go Go.RowKit Go.Shelf Go.Lib
section
attribute[local go_sem] gM
theorem kY.range{w:aF}{b o:Nat}{l:List Sd}(h:kY w (some ⟨b,o,none⟩) l){i:Nat}(hi:i<l.length){s:Sd}(hs:l.getD i default=s):w.rangeAt b (o+i*7) s.cells.toList:=by
 obtain⟨b',o',e,c⟩:=h i hi;injection e with e;injection e with e1 e2;subst e1 e2;intro j v hv;rw[hs]at c;have hj:j<7:=(List.getElem?_eq_some_iff.1 hv).1;rw[c j hj];rw[Array.getD_eq_getD_getElem?,←Array.getElem?_toList,hv];rfl
theorem tC{B:Nat}{w1 w2:aF}{p:cO}{v:aP}(hb:Below B w1 w2)(hlt:p.block<B)(h:w1.cell? p=some v):w2.cell? p=some v:=(hb.cell hlt).trans h
theorem kY.belowB{B:Nat}{w1 w2:aF}{a:Option cO}{l:List Sd}(h:kY w1 a l)(hb:Below B w1 w2)(hlt:∀p,0<l.length→a=some p→p.block<B):kY w2 a l:=fun i hi=>by
 obtain⟨b,off,e,c⟩:=h i hi
 have:=hlt ⟨b,off,none⟩ (by omega) e
 exact⟨b,off,e,fun j hj=>tC hb this (c j hj)⟩
abbrev arK(l:List Sd)(k:Nat):Array aP:=GP (l.getD (pre l.length k) default) (l.getD k default) (fF l k)
abbrev encA(l:List Sd)(k:Nat):Array aP:= #[aC aB k,cF (arK l k)]
theorem jp (m:Nat) (Bs:Nat) (a:Option cO) (n cap:Nat) (l:List Sd) (hl:l.length=n) (hn:n≤1000) (w:aF) (hB:w.cell? ⟨Bs,0,none⟩=some (aD a n cap)) (hr:kY w a l) :
 Qc eP m aE 160 #[aY (some ⟨Bs,0,none⟩)] (encA l) (dW (pT Bs a n)) n w:=by
 intro ly J Jx W hW hJs hY h0;have hB:=bR hW hB;have hr:=hr.below hW;have HL:=zq hl;have HR:=zq hr;have HY:=zq hY;have HJ:=zq hJs;clear hl hr hW hY hJs;refine callsIn_of_wp func160 rfl trivial ?_ rfl;simp only [ntmps160,cD,bD,bV,dQ,dR,cA,cB,cR,cH,dF,cJ];gi_wp2;gi_loopw [9] (fun i wr=> ∃ k:Nat,k≤n∧i=aC aB k∧J k wr∧dW (pT Bs a n) W wr) (fun i _=> n - (aK i).toNat);case atStart=> exact⟨0,bM _,rfl,h0,dW.refl _ _⟩
 case round=>
  obtain⟨k,hk,rfl,hJ,hS⟩:=hrel;rename aF=> wr;by_cases hlt:k < n
  ·have hbx:=(hS.cell (p:=⟨Bs,0,none⟩) (.inl rfl)).trans hB;have hrr:kY wr a l:=fun i hi=> by
    obtain⟨b,o,e,c⟩:=HR.out i hi;subst e;exact⟨b,o,rfl,fun j hj=> (hS.cell (p:=⟨b,o + i * 7 + j,none⟩) (.inr ⟨by omega,_,rfl,rfl⟩)).trans (c j hj)⟩
   obtain⟨b,o,hab, -⟩:=hrr.at (i:=k) (by rw [HL.out];exact hlt) rfl;subst hab;have HYk:=zq (HY.out k · hlt);have hpk:=Je hlt;have htm:=MK hlt;have LJ:=KX k n;have hmn:(k + 1) % n < n:=dB _ (by omega);have R1:=zq (fun (V:aF) (h:kY V (some ⟨b,o,none⟩) l)=> h.range (i:=pre n k) (by rw [HL.out];exact hpk) rfl);have R2:=zq (fun (V:aF) (h:kY V (some ⟨b,o,none⟩) l)=> h.range (i:=k) (by rw [HL.out];exact hlt) rfl);have R3:=zq (fun (V:aF) (h:kY V (some ⟨b,o,none⟩) l)=> h.range (i:=(k + 1) % n) (s:=fF l k) (by rw [HL.out];exact hmn) (by unfold fF;rw [HL.out]));unfold encA arK at HYk;rw [HL.out] at HYk;generalize l.getD (pre n k) default=p at *;generalize l.getD k default=s at *;generalize fF l k=q at *;generalize pre n k=m1 at *;generalize (k + 1) % n=m2 at *;have w1:IntKind.i64.wrap ((k:Int) + n)=(k:Int) + n:=bI _ (by omega);have w2:IntKind.i64.wrap ((k:Int) + n - 1)=(k:Int) + n - 1:=bI _ (by omega);have w3:IntKind.i64.wrap ((k:Int) + 1)=(k:Int) + 1:=bI _ (by omega);have v1:(m1:Int) < n:=by omega
   have v2:(0:Int)≤(m1:Int):=by omega
   have v3:(m2:Int) < n:=by omega
   have v4:(0:Int)≤(m2:Int):=by omega
   have v5:¬ n=0:=by omega
   have v6:(k:Int) < n:=by omega
   have ED:=zq hrr;have HLt:bK (∀ k,pT Bs (some ⟨b,o,none⟩) n k→k < wr.heap.size):=by
    rintro k (rfl | ⟨h0,p,e,rfl⟩)
    ·exact bB wr _ hbx
    ·injection e with e;subst e;obtain⟨b',o',e,c⟩:=hrr 0 (by rw [HL.out];exact h0);injection e with e;injection e with e1 e2;subst e1 e2;exact bB wr _ (c 0 (by decide))
   clear hrr;gi_wp2;refine uB 23 (fun _=> .quiet) (fun w' => w'.cell? ⟨Bs,0,none⟩=some (aD (some ⟨b,o,none⟩) n cap)∧kY w' (some ⟨b,o,none⟩) l) ⟨hbx,ED.out⟩ ?_ (st:=fun w1 w2 h hb=> ⟨tC hb (HLt.out Bs (.inl rfl)) h.1,h.2.belowB hb fun p h0 e=> HLt.out _ (.inr ⟨by rw [← HL.out];exact h0,p,e,rfl⟩)⟩);refine qS 0 rfl (pu ?_);refine qS 1 rfl (pu ?_);refine qS 2 rfl (pu ?_);refine qS 3 rfl (pu ?_);refine qS 4 rfl (pu ?_);refine qS 5 rfl (pu ?_);refine qS 6 rfl (pu ?_);refine qS 7 rfl (pu ?_);refine qS 8 rfl (pu ?_);refine qS 9 rfl (pu ?_);refine qR 10 b (o + m1 * 7) #[aC aB p.x,aC aB p.y,aC aB p.rise,aC aB p.run,aV p.gable,aC aB p.plate,aC aB p.over] (fun V h=> R1.out V h.1.2) rfl (pu ?_);refine qS 11 rfl (pu ?_);refine qS 12 rfl (pu ?_);refine qS 13 rfl (pu ?_);refine qR 14 b (o + k * 7) #[aC aB s.x,aC aB s.y,aC aB s.rise,aC aB s.run,aV s.gable,aC aB s.plate,aC aB s.over] (fun V h=> R2.out V h.1.2) rfl (pu ?_);refine qS 15 rfl (pu ?_);refine qS 16 rfl (pu ?_);refine qS 17 rfl (pu ?_);refine qS 18 rfl (pu ?_);refine qS 19 rfl (pu ?_);refine qS 20 rfl (pu ?_);refine qR 21 b (o + m2 * 7) #[aC aB q.x,aC aB q.y,aC aB q.rise,aC aB q.run,aV q.gable,aC aB q.plate,aC aB q.over] (fun V h=> R3.out V h.1.2) rfl (pu ?_);refine qS 22 rfl (pu ?_);refine qT fun V hV _=> ?_;obtain⟨fn,tmps,assign,body,hy,hR⟩:=HYk.out V (HJ.out _ _ _ hJ hV.b);refine eI 23 [] rfl (fun K hK=> ?_) eB;rw [ip (by kernel_rfl)];have HVb:=zq (dW.below (ks:=pT Bs (some ⟨b,o,none⟩) n) hV.b HLt.out);go_simp;refine⟨fun h=> by simp [eP] at h,hR.mono ?_⟩;clear hy hR;rintro e W3 (⟨rfl,Ze,hk3⟩ | ⟨rfl,xk⟩)
   ·show K _ _;refine hK _ _ (pu ?_);refine tI 24 rfl (pu ?_);refine pM (by kernel_rfl) ?_ _;refine iM.normal ?_;gi_wp2;go_roundw;case rel=> exact⟨k + 1,by omega,by go_num,Ze,(hS.trans HVb.out).trans hk3⟩
    case measure=> simp only [aK];omega
   ·show K _ _;refine hK _ _ (pu ?_);refine tI 24 rfl (pu ?_);refine pM (by kernel_rfl) ?_ _;refine iM.normal ?_;gi_wp2;refine dU (results_none rfl _ _ _) rfl ?_;exact⟨⟨_,rfl⟩, .inr ⟨k + 1,by omega,xk⟩⟩
  ·obtain rfl:n=k:=by omega
   gi_wp2;go_end0;exact⟨⟨_,rfl⟩, .inl hJ⟩
end
section
attribute[local go_sem] gM
theorem Dc(a:Option cO)(n cap:Nat)(w:aF):bE aE 90 #[aD a n cap] w fun e w'=>e=bA (.func (.func 160) #[] #[aY (some ⟨w.heap.size,0,none⟩)])∧w'=w.alloc (aN #[aD a n cap] 54):=by
 go_enter func90,ntmps90;go_wp2;go_ret;exact⟨rfl,rfl⟩
theorem qV{B:Nat}{W:aF}{l:Nat}{o o':Obj}(hB:B≤l)(hl:W.heap[l]? =some o):Below B W (W.putObj l o'):=
 (aL B W).grown (grownBy_putObj' W l o') (aU hB (Nat.le_of_lt (Array.getElem?_eq_some_iff.1 hl).1)) (fun k e=>by cases e;exact hB)
abbrev arZ:Array aP:= #[aC aB 0,aC aB 0,aC aB 0,aC aB 0,aV false,aC aB 0,aC aB 0,aC aB 0,aC aB 0,aC aB 0,aC aB 0,aV false,aC aB 0,aC aB 0,aC aB 0,aC aB 0,aC aB 0,aC aB 0,aV false,aC aB 0,aC aB 0]
theorem Dd{g:Operand}{p1 p2:Tmp}{assign body:Code}{Q:Exit→Act→aF→Prop}{a:Act}{w:aF}(Bs:Nat)(ra:Option cO)(n cap:Nat)(l:List Sd)
 (hg:a.eval g=.func (.func 160) #[] #[aY (some ⟨Bs,0,none⟩)])(hl:l.length=n)(hn:n≤1000)(hB:w.cell? ⟨Bs,0,none⟩=some (aD ra n cap))(hr:kY w ra l)
 (I:Nat→aF→Prop)(Ix:Code→Nat→aF→Prop)(hI:OwnFrom w.heap.size I)(No:∀c,OwnFrom w.heap.size (Ix c))(h0:I 0 w)(A:Nat→Nat→Array aP→Act)
 (pC:∀(ly k:Nat)(p s t:Sd)(W:aF)(K:Act→aF→Prop),k<n→K (A k W.heap.size (GP p s t)) (W.alloc (aN (GP p s t) 140))→
  assign.wpIn (Fence.wide.inRound ly) 7 aE (Exit.then K (fun _ _ _=>False)) {tmps:=(a.tmps.setIfInBounds p1 (aC aB k)).setIfInBounds p2 (cF (GP p s t)),defers:=[]} W)
 (Ab:∀(ly k q:Nat)(p s t:Sd)(W:aF),k<n→l.getD (pre n k) default=p→l.getD k default=s→fF l k=t→bT W q (GP p s t) 140→w.heap.size≤q→(∀j,pT Bs ra n j→j<W.heap.size)→I k W→body.wpIn (Fence.wide.inRound ly) 7 aE (Aa w.heap.size (dW (pT Bs ra n)) I Ix (k+1) W) (A k q (GP p s t)) W)
 (Ac:∀(D:Nat)(W:aF),w.heap.size≤D→I n W→W.heap[D]? =some (.deferred (some []))→Q .normal {a with defers:={target:=.collected D,args:= #[]}::a.defers} W)
 (Ad:∀(D:Nat)(c:Code)(k:Nat)(W:aF),w.heap.size≤D→k≤n→Ix c k W→W.heap[D]? =some (.deferred (some []))→c.wp aE Q {a with defers:={target:=.collected D,args:= #[]}::a.defers} W):
 (Code.rangeFunc g #[p1,p2] assign body).wp aE Q a w:=by
 have hlt:∀k,pT Bs ra n k→k<w.heap.size:=by
  rintro k (rfl|⟨h0,p,e,rfl⟩)
  ·exact bB w _ hB
  ·obtain⟨b,o,e2,c⟩:=hr 0 (by rw[hl];exact h0)
   rw[e]at e2
   injection e2 with e2;subst e2
   exact bB w _ (c 0 (by decide))
 refine Lm (gf:=160) hg (enters_of func160 (by kernel_rfl) rfl) (jp 8 Bs ra n cap l hl hn w hB hr) dW.trans (dW.putObj hlt) (fun _=>rfl) (fun k W=>I k W∧w.heap.size≤W.heap.size) Ix
  (eO hI (fun s A B row h hg _=>aU h hg.size)) No ⟨h0,aH _⟩
  (fun a' k W=>(∃q,(a'=A k q (arK l k)∧w.heap.size≤q)∧bT W q (arK l k) 140)∧I k W∧w.heap.size≤W.heap.size)
  (fun a'=>eO (Own.from (fun s A B row hs hg hr=>by obtain⟨q,e,h⟩:=hs;exact⟨q,e,h.own hg hr⟩) _) (eO hI (fun s A B row h hg _=>aU h hg.size))) ?_ ?_ (fun D W hD hi=>Ac D W hD hi.1) Ad
 ·intro ly k W K hk hi hK
  have hb:Below W.heap.size W (W.alloc (aN (arK l k) 140)):=(aL _ _).alloc (aH _) _
  have e:(#[p1,p2].zip (encA l k)).foldl (fun t(p,v)=>t.setIfInBounds p v) a.tmps=(a.tmps.setIfInBounds p1 (aC aB k)).setIfInBounds p2 (cF (arK l k)):=by simp
  rw[e]
  exact pC ly k _ _ _ W K hk (hK _ _ ((fQ hb).from _) (dW.below hb fun k h=>dC (hlt k h) hi.2) ⟨⟨_,⟨rfl,hi.2⟩,bT.new _ _ _⟩,hI k _ _ none hi.1 (rZ hb) (fun r e=>by cases e),aU hi.2 hb.size⟩)
 ·rintro ly k a' W hk⟨⟨q,⟨rfl,hq⟩,hb⟩,hi,hs⟩
  refine wpIn_mono (Ab ly k q _ _ _ W hk (by rw[hl]) rfl rfl hb hq (fun j hj=>dC (hlt j hj) hs) hi) ?_
  intro e a3 V h
  cases e with
  |normal=>exact⟨h.1,h.2.1,h.2.2,aU hs h.1.size⟩
  |ret=>exact h
  |exit id=>exact h
  |goto t=>exact h
  |panic ch=>exact h
  |outgrown=>exact h
theorem XY(l:List Sd)(k:Nat):jL l (k+1)=jL l k+((l.getD k default).x*(fF l k).y-(l.getD k default).y*(fF l k).x):=by
 rw[jL,Int.mul_comm (fF l k).x];omega
theorem ZN(a:Option cO)(n cap:Nat)(l:List Sd)(w:aF)(hl:l.length=n)(hn:n≤1000)(hC:AH l)(r:kY w a l):
 bE aE 31 #[aD a n cap] w (Rt (aC aB (jL l n)) w):=by
 have fE:=(aL _ w).alloc (aH _) (aN #[aC aB 0] 3)
 have tN:=bT.new w #[aC aB 0] 3
 obtain⟨W0,eY⟩:=nm (w.alloc (aN #[aC aB 0] 3))
 rw[eY]at fE tN
 have fV:=zq fE
 have nO:=zq tN
 have HR:=zq (r.below fE)
 have HL:=zq hl
 have HC:=zq hC
 have HW:=zq eY
 have TZ:bK (∀p,0<n→a=some p→p.block<w.heap.size):=fun p h0 e=>by
  obtain⟨b,o,e2,c⟩:=r 0 (by rw[hl];exact h0)
  rw[e]at e2;injection e2 with e2;subst e2
  exact bB w _ (c 0 (by decide))
 have UR:=zq tN.lt
 clear fE tN r hl hC eY
 refine dM func31 rfl ?_
 simp only[ntmps31,cD,bD,bV,dQ,dR,cA,cB,cR,cH,dF,cJ]
 go_upto_region 2 with(fail)
 rw[HW.out]
 clear HW
 go_wp2_with fail
 refine(Dc a n cap W0).mono ?_
 rintro e W1⟨rfl,rS⟩
 have hb1:Below W0.heap.size W0 W1:=by rw[rS];exact(aL _ _).alloc (aH _) _
 have hq1:bT W1 W0.heap.size #[aD a n cap] 54:=by rw[rS];exact bT.new _ _ _
 have eC:=zq (aQ fV.out hb1)
 have zW:=zq hq1
 have Nz:=zq (nO.out.below hb1 nO.out.lt)
 have AY:=zq (HR.out.below hb1)
 clear hb1 hq1 rS fV nO HR
 have HBs:bK (w.heap.size<W0.heap.size):=UR
 clear UR
 generalize W0.heap.size=Bs at *
 go_wp2_with fail
 obtain⟨SB,sj⟩:=nm w.heap.size
 rw[sj]at Nz⊢
 have hSW:SB<W1.heap.size:=Nz.out.lt
 have MP:∀j,pT Bs a n j→j≠SB:=by
  rintro j (rfl|⟨h0,p,e,rfl⟩)h
  ·have:=HBs.out;omega
  ·have:=TZ.out p h0 e;omega
 have HSB:=zq sj
 clear sj
 refine Dd Bs a n cap l rfl HL.out hn (zW.out.cell 0) AY.out (fun k W=>bT W SB #[aC aB (jL l k)] 3∧Below w.heap.size w W) (fun _ _ _=>False)
  (eO (Own.from (fun s A B row hs hg hr=>hs.own hg hr) _) (yY (aH _) eC.out.size)) (fun c _ _ _ _ hs _ _=>hs) ⟨Nz.out,eC.out⟩
  (fun k q ar=>{tmps:= #[aD a n cap,aO,aC aB 0,aY (some ⟨SB,0,none⟩),aO,aY (some ⟨q,0,none⟩),aD a n cap,.func (.func 160) #[] #[aY (some ⟨Bs,0,none⟩)],aC aB k,cF ar,aO,aO,aO,aO,aO,aO,aO,aO,aO,aO],defers:=[]})
  (fun ly k p s t W K hk hK=>?_) (fun ly k q p s t W hk hp hs ht hq Tw NA hI=>?_) (fun D W hD hI hK=>?_) (fun D c k W _ _ h _=>absurd h (fun h=>h))
 ·refine xN arZ (GP p s t) rfl ?_
  show K _ _
  simpa only[cS,aM,aT,aW]using hK
 ·obtain⟨h1,h2⟩:=hI
  have s0:=h1.cell 0
  simp only[aJ,aI]at s0
  have H1:=zq h1
  have Hrw:=zq NA
  have Hne:=zq MP
  have H2:=zq h2
  have HK:=zq hk
  have E1:=zq (XY l k)
  have hb:=GO HC.out k
  have hb2:=GO HC.out (k+1)
  have US:C1 s:=by rw[←hs];exact HC.out k
  have XZ:C1 t:=by rw[←ht];exact HC.out _
  rw[hs,ht]at E1
  have hX:=zq (fun W=>UP s.x s.y t.x t.y W US.x US.y XZ.x XZ.y)
  have BM:=zq (fun W=>mA s W)
  have GQ:=zq (fun W=>mA t W)
  obtain⟨T2,hT2⟩:=nm (jL l (k+1))
  rw[hT2]at E1 hb2
  have Sk:=zq hT2
  generalize jL l k=T at *
  clear h1 h2 hp NA MP hs ht US XZ hT2
  obtain⟨X,hX1⟩:=nm (s.x*t.y-s.y*t.x)
  rw[hX1]at E1 hX
  have e1:IntKind.i64.wrap (T+X)=T+X:=bI _ (by rw[E1.out]at hb2;omega)
  have HQ:=zq hq
  clear hX1 hq
  gi_wp2
  refine tV 9 (fun _=>.quiet) (fun w'=>w'.cell? ⟨SB,0,none⟩=some (aC aB T)∧bT w' q (GP p s t) 140) ⟨s0,HQ.out⟩ ?_ (st:=fun w1 w2 h hb=>⟨tC hb H1.out.lt h.1,h.2.below hb HQ.out.lt⟩)
  refine qS 0 rfl (pu ?_)
  refine qS 1 rfl (pu ?_)
  refine qL 2 q 7 #[aC aB s.x,aC aB s.y,aC aB s.rise,aC aB s.run,aV s.gable,aC aB s.plate,aC aB s.over] (fun V h=>h.1.2) rfl (pu ?_)
  refine qC 3 (fun W _=>BM.out W) rfl (pu ?_)
  refine qS 4 rfl (pu ?_)
  refine qL 5 q 14 #[aC aB t.x,aC aB t.y,aC aB t.rise,aC aB t.run,aV t.gable,aC aB t.plate,aC aB t.over] (fun V h=>h.1.2) rfl (pu ?_)
  refine qC 6 (fun W _=>GQ.out W) rfl (pu ?_)
  refine qC 7 (fun W _=>hX.out W) rfl (pu ?_)
  refine qS 8 rfl (pu ?_)
  refine qT fun V hV _=>?_
  have rU:=hV.b
  have q1:=H1.out.below rU H1.out.lt
  have d0:=q1.cell 0
  have z0:=q1.fz 0
  simp only[aJ,aI]at d0
  have Hq1:=zq q1
  have jq:=zq rU
  have lV:=q1.lt
  clear s0 hV q1 rU e1
  refine eI 9 [] rfl (fun K hK=>?_) eB
  rw[ip (by kernel_rfl)]
  go_simp
  refine hK _ _ (pu ?_)
  refine pM (by kernel_rfl) ?_ _
  refine iM.normal ?_
  have q2:=Hq1.out.set 0 (aC aB (T+X))
  simp only[aM,aT]at q2
  rw[←E1.out]at q2⊢
  have HF:=zq (show KeepsFrom W1.heap.size W (V.setCell ⟨SB,0,none⟩ (aC aB T2))from((fQ jq.out).trans (dG _ _ _)).from _)
  have HG:=zq ((dW.below (ks:=pT Bs a n) jq.out Hrw.out).trans (dW.setCell (a:=⟨SB,0,none⟩) Hne.out (aC aB T2)))
  gi_wp2
  exact⟨HF.out,HG.out,by rw[Sk.out];exact q2,(aQ H2.out jq.out).setCell (p:=⟨SB,0,none⟩) (A9 HSB.out) _⟩
 ·obtain⟨h1,h2⟩:=hI
  have s0:=h1.cell 0
  simp only[aJ,aI]at s0
  have H2:=zq h2
  have HK:=zq hK
  have HD:=zq (aU eC.out.size hD)
  clear h1 h2 hK hD
  go_wp2
  refine⟨by simp,.inl ⟨_,_,rfl,nD HK.out,?_⟩⟩
  exact⟨_,iS Tryz.results31 _ _ _,rfl,H2.out.trans (qV HD.out HK.out)⟩
end
end
section
open Go Go.RowKit Go.Lib
def zI(l:List Sd)(x y:Int)(i:Nat):Bool:=((l.getD i default).x==(fF l i).x)&&(decide (x<(fF l i).x)&&(decide (BZ (l.getD i default).y (fF l i).y≤y)&&decide (y<B7 (l.getD i default).y (fF l i).y)))
def xY(p:Nat→Bool):Nat→Bool
 |0=>false
 |n+1=>if p n=true then !xY p n else xY p n
def GR(l:List Sd)(x y:Int):Bool:=xY (zI l x y) l.length
theorem X7 (a:Option cO) (n cap:Nat) (l:List Sd) (x y:Int) (w:aF) (hl:l.length=n) (hn:n≤1000) (r:kY w a l) :
 bE aE 116 #[aD a n cap,aC aB x,aC aB y] w fun e w' => e=bA (aV (GR l x y))∧Dr w w' :=by
 have HE:=zq (fun k (hk:k < n) W (hW:Dr w W)=> MM a n cap k l W hl (by omega) hk (r.below hW.below));have HR:=zq r;have HL:=zq hl;have HN:bK (GR l x y=xY (zI l x y) n):=by show _=_;rw [← hl];rfl
 clear r hl;go_enter func116,ntmps116;go_wp2;go_loopw [7,8] (fun t i wr=> ∃ k:Nat,i=aC aB k∧t=aV (xY (zI l x y) k)∧k≤n∧bK (Dr w wr)) (fun _ i _=> n - (aK i).toNat);case atStart=> exact⟨0,rfl,rfl,bM _,Dr.refl w⟩
 case round=>
  obtain⟨k,rfl,rfl,hk,HB⟩:=hrel;by_cases hlt:k < n
  ·have HEk:=zq (HE.out k hlt _ HB.out);obtain⟨b,o,rfl, -⟩:=HR.out.at (i:=k) (by rw [HL.out];exact hlt) rfl;have E1:bK (xY (zI l x y) (k + 1)=if zI l x y k=true then !xY (zI l x y) k else xY (zI l x y) k):=rfl;have E2:bK (zI l x y k=(((l.getD k default).x==(fF l k).x) && (decide (x < (fF l k).x) && (decide (BZ (l.getD k default).y (fF l k).y≤y) && decide (y < B7 (l.getD k default).y (fF l k).y))))):=rfl;obtain⟨s,hs⟩:∃ s,l.getD k default=s:=⟨_,rfl⟩;rw [hs] at E2;have Hs:=zq hs;clear hs;obtain⟨B2,lM⟩:=nm (xY (zI l x y) (k + 1));have eT:=zq lM;rw [lM] at E1;clear lM;generalize xY (zI l x y) k=B1 at *;generalize zI l x y k=C at *;generalize fF l k=q at *;go_wp2_with fail
   refine HEk.out.mono ?_;rintro e W ⟨rfl,hb1⟩;have eC:=zq (HB.out.trans hb1);obtain⟨b',o',e1,c0,c1, -⟩:=(HR.out.below eC.out.below).at (i:=k) (by rw [HL.out];exact hlt) Hs.out;injection e1 with e1;injection e1 with e1 e2;subst e1 e2;clear hb1 HEk HB;unfold BZ B7 at E2;obtain⟨M1,hM1⟩:∃ x,(if q.y < s.y then q.y else s.y)=x:=⟨_,rfl⟩;obtain⟨M2,hM2⟩:∃ x,(if s.y < q.y then q.y else s.y)=x:=⟨_,rfl⟩;rw [hM1,hM2] at E2;have mM1:=Bz hM1;have mM2:=BA hM2;have hx:bK ((s.x==q.x)=false∧B2=B1∨(s.x==q.x)=true∧decide (x < q.x)=false∧B2=B1∨(s.x==q.x)=true∧decide (x < q.x)=true∧decide (M1≤y)=false∧B2=B1∨
    (s.x==q.x)=true∧decide (x < q.x)=true∧decide (M1≤y)=true∧decide (y < M2)=false∧B2=B1∨(s.x==q.x)=true∧decide (x < q.x)=true∧decide (M1≤y)=true∧decide (y < M2)=true∧B2= !B1):=by
    show _∨_;rw [E1.out,E2.out];cases (s.x==q.x) <;> cases decide (x < q.x) <;> cases decide (M1≤y) <;> cases decide (y < M2) <;> simp
   clear E1 E2;rcases hx.out with ⟨h1,rfl⟩ | ⟨h1,h2,rfl⟩ | ⟨h1,h2,h3,rfl⟩ | ⟨h1,h2,h3,h4,rfl⟩ | ⟨h1,h2,h3,h4,rfl⟩;all_goals
    clear hx;go_wp2;go_roundw;case rel=> exact⟨k + 1,by go_num,by rw [eT.out],by omega,eC.out⟩
    case measure=> simp only [aK];omega
  ·obtain rfl:n=k:=by omega
   go_wp2;go_ret;exact⟨by rw [HN.out] <;> rfl,HB.out⟩
end
section
open Go Go.RowKit Go.Shelf Go.Lib
section
attribute[local go_sem] gM
theorem ldI{F:Fence}{n:Nat}{P:Program}{cM:Array Oper}{rest:List Oper}{op:Oper}{a:Act}{w:World}{Q:Exit→Act→World→Prop}(ty:TypeId)(b o:Nat)(cs:Array Value){x:Operand}{d:TypeDesc}(hc:w.rangeAt b o cs.toList)
 (h:wpListIn F n P cM Q rest (a.put op.dst (.agg cs)) w)(ho:op.op=.load ty x:=by rfl)(hg:op.guard=none:=by rfl)(hx:a.eval x=.pointer (some ⟨b,o,none⟩):=by rfl)(hu:P.underlying ty=some d:=by rfl)(hd:d.isRow=true:=by rfl)(hz:(P.info? ty).map (·.size)=some cs.toList.length:=by kernel_rfl):wpListIn F n P cM Q (op::rest) a w:=
 wpListIn_plain hg fun K hK=>by
  refine⟨fun f hf=>?_,?_⟩
  ·unfold Oper.about at hf
   rw[ho]at hf
   cases hf
  ·have e:=run_loadAt_mid (P:=P) w b o ty cs.toList d hc hu hd hz
   rw[Oper.semAt_plain F _ _ (fun c=>by rw[ho];exact fun h=>by cases h)]
   unfold execOp
   simp only[ho,hx,Sem.run_bind,e,Result.andThen_ok,Sem.run_pure]
   show K (a.put op.dst _) w
   exact hK _ _ (by simpa using h)
def crsP(s t:Sd)(x y:Int):Bool:=((t.x-s.x)==0)&&(decide (x<s.x)&&(decide (y<s.y) !=decide (y<t.y)))
theorem field_sp(u v:Int)(W:aF):Sem.run aE (Instr.field 142 (cF #[aC aB u,aC aB v]) 0) W=.ok (aC aB u) W:=by first |rfl|kernel_rfl
theorem crsP_eq(l:List Sd)(x y:Int)(k:Nat):zI l x y k=crsP (l.getD k default) (fF l k) x y:=by
 unfold zI crsP BZ B7;generalize l.getD k default=s;generalize fF l k=t;by_cases h:s.x=t.x
 ·have h1:(s.x==t.x)=true:=by simp[h]
  have h2:(t.x-s.x==0)=true:=by rw[beq_iff_eq];omega
  rw[h1,h2,h];congr 2;by_cases h3:y<s.y<;>by_cases h4:y<t.y<;>simp[h3,h4]<;>split <;>omega
 ·have h1:(s.x==t.x)=false:=by simp[h]
  have h2:(t.x-s.x==0)=false:=by rw[beq_eq_false_iff_ne];omega
  rw[h1,h2];rfl
theorem jr(a:Option cO)(n cap:Nat)(l:List Sd)(x y:Int)(w:aF)(hl:l.length=n)(hn:n≤1000)(hC:AH l)(r:kY w a l):
 bE aE 131 #[aD a n cap,si x y] w (Rt (aV (GR l x y)) w):=by
 obtain⟨W0,eY⟩:=nm ((w.alloc (aN #[aC aB x,aC aB y] 142)).alloc (aN #[aV false] 4))
 obtain⟨Zn,tN,fE⟩:=MO eY
 have fV:=zq fE
 have HP0:=zq Zn
 have nO:=zq tN
 have HR:=zq (r.below fE)
 have HL:=zq hl
 have HC:=zq hC
 have HW:=zq eY
 have HE:bK (GR l x y=xY (zI l x y) n):=by show _=_;rw[←hl];rfl
 have TZ:bK (∀p,0<n→a=some p→p.block<w.heap.size):=fun p h0 e=>by
  obtain⟨b,o,e2,c⟩:=r 0 (by rw[hl];exact h0)
  rw[e]at e2;injection e2 with e2;subst e2
  exact bB w _ (c 0 (by decide))
 have UR:bK (w.heap.size+1<W0.heap.size):=tN.lt
 clear fE Zn tN r hl hC eY
 refine dM func131 rfl ?_
 simp only[ntmps131,cD,bD,bV,dQ,dR,cA,cB,cR,cH,dF,cJ]
 go_upto_region 2 with(fail)
 rw[HW.out]
 clear HW
 go_wp2_with fail
 refine(Dc a n cap W0).mono ?_
 rintro e W1⟨rfl,rS⟩
 have hb1:Below W0.heap.size W0 W1:=by rw[rS];exact(aL _ _).alloc (aH _) _
 have hq1:bT W1 W0.heap.size #[aD a n cap] 54:=by rw[rS];exact bT.new _ _ _
 have eC:=zq (aQ fV.out hb1)
 have zW:=zq hq1
 have Nz:=zq (nO.out.below hb1 nO.out.lt)
 have HPs:=zq (HP0.out.below hb1 HP0.out.lt)
 have AY:=zq (HR.out.below hb1)
 clear hb1 hq1 rS fV nO HP0 HR
 have HBs:bK (w.heap.size+1<W0.heap.size):=UR
 clear UR
 generalize W0.heap.size=Bs at *
 go_wp2_with fail
 obtain⟨SB,sj⟩:=nm (w.heap.size+1)
 obtain⟨PB,hPB⟩:=nm w.heap.size
 rw[hPB]at HPs
 rw[sj]at Nz⊢
 rw[hPB]at sj⊢
 have MP:∀j,pT Bs a n j→j≠SB:=by
  rintro j (rfl|⟨h0,p,e,rfl⟩)h
  ·have:=HBs.out;omega
  ·have:=TZ.out p h0 e;omega
 have HSB:=zq sj
 have HPB:=zq hPB
 clear sj hPB
 have E0:bK (∀k,xY (zI l x y) (k+1)=if crsP (l.getD k default) (fF l k) x y=true then !xY (zI l x y) k else xY (zI l x y) k):=fun k=>by rw[xY,crsP_eq]
 refine Dd Bs a n cap l rfl HL.out hn (zW.out.cell 0) AY.out (fun k W=>bT W SB #[aV (xY (zI l x y) k)] 4∧Below w.heap.size w W∧bT W PB #[aC aB x,aC aB y] 142) (fun _ _ _=>False)
  (eO (Own.from (fun s A B row hs hg hr=>hs.own hg hr) _) (eO (yY (aH _) eC.out.size) (Own.from (fun s A B row hs hg hr=>hs.own hg hr) _))) (fun c _ _ _ _ hs _ _=>hs) ⟨Nz.out,eC.out,HPs.out⟩
  (fun k q ar=>{tmps:= #[aD a n cap,si x y,aO,aY (some ⟨PB,0,none⟩),aV false,aY (some ⟨SB,0,none⟩),aO,aY (some ⟨q,0,none⟩),aO,aD a n cap,.func (.func 160) #[] #[aY (some ⟨Bs,0,none⟩)],aC aB k,cF ar,aO,aO,aO,aO,aO,aO,aO,aO,aO,aO,aO,aO,aO,aO,aO,aO,aO,aO,aO,aO,aO,aO,aO,aO,aO,aO,aO,aO,aO,aO,aO],defers:=[]})
  (fun ly k p s t W K hk hK=>?_) (fun ly k q p s t W hk hp hs ht hq Tw NA hI=>?_) (fun D W hD hI hK=>?_) (fun D c k W _ _ h _=>absurd h (fun h=>h))
 ·refine xN arZ (GP p s t) rfl ?_
  show K _ _
  simpa only[cS,aM,aT,aW]using hK
 ·obtain⟨h1,h2,h3⟩:=hI
  have H1:=zq h1
  have H2:=zq h2
  have H3:=zq h3
  have Hrw:=zq NA
  have Hne:=zq MP
  have E1:=zq (E0.out k)
  have US:C1 s:=by rw[←hs];exact HC.out k
  have XZ:C1 t:=by rw[←ht];exact HC.out _
  rw[hs,ht]at E1
  have BM:=zq (fun W=>mA s W)
  have hwy:=zq (fun W=>XW p s t W US.x US.y XZ.x XZ.y)
  obtain⟨B2,lM⟩:=nm (xY (zI l x y) (k+1))
  rw[lM]at E1
  have eT:=zq lM
  have Sx:=US.x
  have Tx:=XZ.x
  generalize xY (zI l x y) k=B1 at *
  have HQ:=zq hq
  clear h1 h2 h3 hp NA MP hs ht US XZ lM hq HC E0 Sx Tx
  gi_wp2_with (refine ldI 56 q 7 #[aC aB s.x,aC aB s.y,aC aB s.rise,aC aB s.run,aV s.gable,aC aB s.plate,aC aB s.over] (HQ.out.range 7 7 rfl) ?_)
  refine⟨trivial,(Calls.round (BM.out _) _ _).mono ?_⟩
  rintro e V1⟨rfl,hb1⟩
  have jq:=zq hb1
  have Uf:=bT.new V1 #[aC aB s.x,aC aB s.y] 142
  obtain⟨V2,hVe⟩:=nm (V1.alloc (aN #[aC aB s.x,aC aB s.y] 142))
  rw[hVe]at Uf
  have hb2:Below V1.heap.size V1 V2:=by rw[←hVe];exact(aL _ _).alloc (aH _) _
  have NU:=zq Uf
  have ZO:=zq (aQ jq.out hb2)
  have Hve:=zq hVe
  have Cf:=zq (HQ.out.below ZO.out HQ.out.lt)
  clear hb1 Uf hb2 hVe jq HQ
  gi_upto_region 5 with(fail)
  rw[Hve.out]
  clear Hve
  generalize V1.heap.size=VB at *
  gi_wp2_with (refine ldI 140 q 0 (GP p s t) (Cf.out.range 0 21 rfl) ?_)
  refine⟨trivial,(Calls.round (hwy.out _) _ _).mono ?_⟩
  rintro e V3⟨rfl,hb3⟩
  have Hb3:=zq (aQ ZO.out hb3)
  have g:=NU.out.below hb3 NU.out.lt
  have g0:=g.cell 0
  have g1:=g.cell 1
  have h3:=H3.out.below Hb3.out H3.out.lt
  have p0:=h3.cell 0
  have p1:=h3.cell 1
  have h1:=H1.out.below Hb3.out H1.out.lt
  have s0:=h1.cell 0
  have z0:=h1.fz 0
  have hq3:=Cf.out.below hb3 Cf.out.lt
  have t1:=hq3.cell 15
  simp only[aJ,aI,bC]at g0 g1 p0 p1 s0 t1
  have H1':=zq h1
  have H3':=zq h3
  have ls:=h1.lt
  clear hb3 g h3 h1 hq3 NU Cf ZO H1 H3
  have HF:=zq ((fQ Hb3.out).from W1.heap.size)
  have HG:=zq (dW.below (ks:=pT Bs a n) Hb3.out Hrw.out)
  have Wa:=zq (aQ H2.out Hb3.out)
  have hx:bK (((t.x-s.x)=0)=False∧B2=B1∨(t.x-s.x)=0∧(x<s.x)=False∧B2=B1∨(t.x-s.x)=0∧x<s.x∧(y<s.y)=False∧(y<t.y)=False∧B2=B1∨(t.x-s.x)=0∧x<s.x∧y<s.y∧y<t.y∧B2=B1∨
   (t.x-s.x)=0∧x<s.x∧y<s.y∧(y<t.y)=False∧B2= !B1∨(t.x-s.x)=0∧x<s.x∧(y<s.y)=False∧y<t.y∧B2= !B1):=by
   show _∨_
   rw[E1.out]
   unfold crsP
   by_cases c1:t.x-s.x=0<;>by_cases c2:x<s.x<;>by_cases c3:y<s.y<;>by_cases c4:y<t.y<;>simp[c1,c2,c3,c4]
  clear E1
  have NQ:=field_sp
  rcases hx.out with⟨c1,rfl⟩|⟨c1,c2,rfl⟩|⟨c1,c2,c3,c4,rfl⟩|⟨c1,c2,c3,c4,rfl⟩|⟨c1,c2,c3,c4,rfl⟩|⟨c1,c2,c3,c4,rfl⟩
  all_goals
   clear hx
   gi_wp2
   first
    |exact⟨HF.out,HG.out,by rw[eT.out];exact H1'.out,Wa.out,H3'.out⟩
    |(exact⟨HF.out.trans ((dG _ _ _).from _),HG.out.trans (dW.setCell (a:=⟨SB,0,none⟩) Hne.out _),by rw[eT.out];exact H1'.out.set 0 _,Wa.out.setCell (p:=⟨SB,0,none⟩) (by show w.heap.size≤SB;rw[←HSB.out,←HPB.out];exact Hv _) _,H3'.out.other _ (by show PB≠SB;rw[←HSB.out];exact Nat.ne_of_lt (Od _))⟩)
    |(trace_state;fail)
 ·obtain⟨h1,h2,h3⟩:=hI
  have s0:=h1.cell 0
  simp only[aJ,aI]at s0
  have H2:=zq h2
  have HK:=zq hK
  have HD:=zq (aU eC.out.size hD)
  have E:=zq HE.out
  clear h1 h2 h3 hK hD
  go_wp2
  refine⟨by simp,.inl ⟨_,_,rfl,nD HK.out,?_⟩⟩
  exact⟨_,iS Tryz.results131 _ _ _,by rw[E.out]<;>rfl,H2.out.trans (qV HD.out HK.out)⟩
end
section
attribute[local go_sem] gM
def badQ(p s t:Sd):Bool:=((t.x-s.x==0)==(t.y-s.y==0))||((s.x-p.x==0)==(t.x-s.x==0))
def De(l:List Sd)(k:Nat):Bool:=badQ (l.getD (pre l.length k) default) (l.getD k default) (fF l k)
theorem uU(n:Int):tB n=0↔n=0:=by
 unfold tB;split
 ·omega
 ·split <;>omega
theorem oC{F:Fence}{n:Nat}{P:dN}{fn:Func}{R:Ending→aF→Prop}{a:Act}{w:aF}{v:aP}(h:(lF fn a.tmps).run P w=.ok v w)(hd:a.defers=[])(hR:R (bA v) w):bodyPostM F n P fn R .ret a w:=by
 show LeavesInM _ _ _ _ _ _ _ _ _;rw[hd];exact⟨v,h,hR⟩
theorem postD{F:Fence}{n:Nat}{P:dN}{fn:Func}{R:Ending→aF→Prop}{a:Act}{w w2:aF}{v:aP}{D:Nat}(hd:a.defers=[{target:=.collected D,args:= #[]}])(hD:(Instr.takeDeferred D).run P w=.ok [] w2)(h:(lF fn a.tmps).run P w2=.ok v w2)(hR:R (bA v) w2):bodyPostM F n P fn R .ret a w:=by
 show LeavesInM _ _ _ _ _ _ _ _ _;rw[hd];exact⟨by simp,.inl ⟨_,_,rfl,hD,_,h,hR⟩⟩
theorem Df(W:aF):(isAgg 4).run aE W=.ok false W:=by first |rfl|kernel_rfl
theorem rH{W:aF}{b:Nat}{x y:aP}{T:dT}(h:bT W b #[x,y] T):W.cell? ⟨b,0,none⟩=some x∧W.cell? ⟨b,1,none⟩=some y∧W.frozen? ⟨b,0,none⟩=false∧W.frozen? ⟨b,1,none⟩=false∧b<W.heap.size:=⟨h.cell 0,h.cell 1,h.fz 0,h.fz 1,h.lt⟩
theorem X8(a:Option cO)(n cap:Nat)(l:List Sd)(w:aF)(hl:l.length=n)(hn:n≤1000)(hC:AH l)(r:kY w a l):
 bE aE 59 #[aD a n cap] w (Rt (aV (decide (4≤n)&& !anyN (De l) n)) w):=by
 obtain⟨W0,eY⟩:=nm (w.alloc (aN #[aV false] 4))
 have fE:=(aL _ w).alloc (aH _) (aN #[aV false] 4)
 have tN:=bT.new w #[aV false] 4
 rw[eY]at fE tN
 have fV:=zq fE
 have nO:=zq tN
 have HR:=zq (r.below fE)
 have HL:=zq hl
 have HC:=zq hC
 have HW:=zq eY
 have TZ:bK (∀p,0<n→a=some p→p.block<w.heap.size):=fun p h0 e=>by
  obtain⟨b,o,e2,c⟩:=r 0 (by rw[hl];exact h0)
  rw[e]at e2;injection e2 with e2;subst e2
  exact bB w _ (c 0 (by decide))
 have UR:bK (w.heap.size<W0.heap.size):=tN.lt
 clear fE tN r hl hC eY
 refine dM func59 rfl ?_
 simp only[ntmps59,cD,bD,bV,dQ,dR,cA,cB,cR,cH,dF,cJ]
 go_upto_region 1 with(fail)
 rw[HW.out]
 clear HW
 have q0:=nO.out.cell 0
 have z0:=nO.out.fz 0
 have l0:=nO.out.lt
 simp only[aJ,aI]at q0
 by_cases h4:n<4
 ·have q2:=nO.out.set 0 (aV false)
  have lM:=fV.out.setCell (p:=⟨w.heap.size,0,none⟩) (aH _) (aV false)
  simp only[aM,aT]at q2
  have Hq2:=zq q2
  have eT:=zq lM
  have E:bK ((decide (4≤n)&& !anyN (De l) n)=false):=by show _=_;rw[decide_eq_false (by omega)];rfl
  clear q2 lM
  go_wp2
  exact oC (mY rfl _ _ w.heap.size (aV false) rfl (Hq2.out.cell 0) (Df _)) rfl ⟨by rw[E.out],eT.out⟩
 go_wp2_with fail
 refine(Dc a n cap W0).mono ?_
 rintro e W1⟨rfl,rS⟩
 have hb1:Below W0.heap.size W0 W1:=by rw[rS];exact(aL _ _).alloc (aH _) _
 have hq1:bT W1 W0.heap.size #[aD a n cap] 54:=by rw[rS];exact bT.new _ _ _
 have eC:=zq (aQ fV.out hb1)
 have zW:=zq hq1
 have Nz:=zq (nO.out.below hb1 nO.out.lt)
 have AY:=zq (HR.out.below hb1)
 clear hb1 hq1 rS fV nO HR q0 z0 l0
 have HBs:bK (w.heap.size<W0.heap.size):=UR
 clear UR
 generalize W0.heap.size=Bs at *
 go_wp2_with fail
 obtain⟨RB,hRB⟩:=nm w.heap.size
 rw[hRB]at Nz⊢
 have MP:∀j,pT Bs a n j→j≠RB:=by
  rintro j (rfl|⟨h0,p,e,rfl⟩)h
  ·have:=HBs.out;omega
  ·have:=TZ.out p h0 e;omega
 have di:=zq hRB
 clear hRB
 have E0:bK (∀k,anyN (De l) (k+1)=(anyN (De l) k||badQ (l.getD (pre l.length k) default) (l.getD k default) (fF l k))):=fun k=>rfl
 rw[HL.out]at E0
 refine Dd Bs a n cap l rfl HL.out hn (zW.out.cell 0) AY.out (fun k W=>bT W RB #[aV false] 4∧Below w.heap.size w W∧anyN (De l) k=false) (fun c _ W=>c=.ret∧bT W RB #[aV false] 4∧Below w.heap.size w W∧anyN (De l) n=true)
  (eO (Own.from (fun s A B row hs hg hr=>hs.own hg hr) _) (eO (yY (aH _) eC.out.size) (fun _ _ _ _ h _ _=>h)))
  (fun c=>eO (fun _ _ _ _ h _ _=>h) (eO (Own.from (fun s A B row hs hg hr=>hs.own hg hr) _) (eO (yY (aH _) eC.out.size) (fun _ _ _ _ h _ _=>h)))) ⟨Nz.out,eC.out,rfl⟩
  (fun k q ar=>{tmps:= #[aD a n cap,aO,aY (some ⟨RB,0,none⟩),aO,aY (some ⟨q,0,none⟩),aO,aO,aD a n cap,aC aB n,aV (decide ((n:Int)<4)),aD a n cap,.func (.func 160) #[] #[aY (some ⟨Bs,0,none⟩)],aC aB k,cF ar,aO,aO,aO,aO,aO,aO,aO,aO,aO,aO,aO,aO,aO,aO,aO,aO,aO,aO,aO,aO,aO,aO,aO,aO,aO],defers:=[]})
  (fun ly k p s t W K hk hK=>?_) (fun ly k q p s t W hk hp hs ht hq Tw NA hI=>?_) (fun D W hD hI hK=>?_) (fun D c k W hD hk hI hK=>?_)
 ·refine xN arZ (GP p s t) rfl ?_
  show K _ _
  simpa only[cS,aM,aT,aW]using hK
 ·obtain⟨h1,h2,h3⟩:=hI
  have H1:=zq h1
  have H2:=zq h2
  have H3:=zq h3
  have Hrw:=zq NA
  have Hne:=zq MP
  have HK:=zq hk
  have E1:=zq (E0.out k)
  have C1p:C1 p:=by rw[←hp];exact HC.out _
  have US:C1 s:=by rw[←hs];exact HC.out k
  have XZ:C1 t:=by rw[←ht];exact HC.out _
  rw[hp,hs,ht,h3,oM]at E1
  have hcp:=zq (fun W=>mA p W)
  have BM:=zq (fun W=>mA s W)
  have hto:=zq (fun W=>pl_to p.x p.y s.x s.y W C1p.x C1p.y US.x US.y)
  have hwy:=zq (fun W=>XW p s t W US.x US.y XZ.x XZ.y)
  have HQ:=zq hq
  have HRW:bK (RB≠W.heap.size∧RB<W.heap.size):=⟨Nat.ne_of_lt h1.lt,h1.lt⟩
  clear h1 h2 h3 hp NA MP hs ht C1p US XZ hq hk
  gi_wp2
  refine tV 12 (fun |9=>.alloc #[aC aB 0,aC aB 0] 142|10=>.alloc #[aC aB 0,aC aB 0] 142|11=>.store|_=>.quiet) (fun w'=>bT w' q (GP p s t) 140) HQ.out ?_ (st:=fun w1 w2 h hb=>h.below hb HQ.out.lt)
  refine qS 0 rfl (pu ?_)
  refine qL 1 q 0 #[aC aB p.x,aC aB p.y,aC aB p.rise,aC aB p.run,aV p.gable,aC aB p.plate,aC aB p.over] (fun V h=>h.1) rfl (pu ?_)
  refine qC 2 (fun W _=>hcp.out W) rfl (pu ?_)
  refine qS 3 rfl (pu ?_)
  refine qL 4 q 7 #[aC aB s.x,aC aB s.y,aC aB s.rise,aC aB s.run,aV s.gable,aC aB s.plate,aC aB s.over] (fun V h=>h.1) rfl (pu ?_)
  refine qC 5 (fun W _=>BM.out W) rfl (pu ?_)
  refine qC 6 (fun W _=>hto.out W) rfl (pu ?_)
  refine qL 7 q 0 (GP p s t) (fun V h=>h.1) rfl (pu ?_)
  refine qC 8 (fun W _=>hwy.out W) rfl (pu ?_)
  refine qA 9 [9,10] #[aC aB 0,aC aB 0] 142 rfl (fun g5 Zr hn5=>pu ?_) (hal:=fun j hj=>by simp at hj;rcases hj with rfl|rfl<;>exact⟨_,_,rfl,by decide⟩)
  refine qA 10 [10] #[aC aB 0,aC aB 0] 142 rfl (fun g6 hg6 hn6=>pu ?_) (hal:=fun j hj=>by simp at hj;rcases hj with rfl;exact⟨_,_,rfl,by decide⟩)
  have iC:g5≠g6:=fun e=>by subst e;unfold Ch at hn6;rw[ip rfl]at hn6;cases hn6
  refine qW 11 g5 #[aC aB (s.x-p.x),aC aB (s.y-p.y)] #[aC aB 0,aC aB 0] 142 rfl (by unfold Ch;rw[iN iC,ip rfl]) Zr ?_ UJ
  refine qT fun V hV hG=>?_
  have b5:bT V g5 #[aC aB (s.x-p.x),aC aB (s.y-p.y)] 142:=hG g5 _ _ (by unfold Ch;rw[ip rfl])
  have b6:bT V g6 #[aC aB 0,aC aB 0] 142:=hG g6 _ _ (by unfold Ch;rw[iN (Ne.symm iC),ip rfl])
  have rU:=hV.b
  obtain⟨e0,e1,z0,z1,l6⟩:=rH b6
  have B6:=zq b6
  have B5:=zq b5
  have jq:=zq rU
  have Hg6:=zq hg6
  have Hg5:=zq Zr
  have js:=zq iC
  clear b5 b6 rU hV hG hg6 Zr hn5 hn6 iC hcp BM hto hwy
  refine eI 12 [] rfl (fun K hK=>?_) eB
  rw[ip (by kernel_rfl)]
  go_simp
  refine hK _ _ (pu ?_)
  refine pM (by kernel_rfl) ?_ _
  refine iM.normal ?_
  have q6:=(B6.out.set 0 (aC aB (t.x-s.x))).set 1 (aC aB (t.y-s.y))
  simp only[aM,aT,aW]at q6
  have q5:=(B5.out.other (a:=⟨g6,0,none⟩) (aC aB (t.x-s.x)) js.out).other (a:=⟨g6,1,none⟩) (aC aB (t.y-s.y)) js.out
  have hb2:=(jq.out.setCell (p:=⟨g6,0,none⟩) Hg6.out (aC aB (t.x-s.x))).setCell (p:=⟨g6,1,none⟩) Hg6.out (aC aB (t.y-s.y))
  clear hK e0 e1 z0 z1 l6 B6 B5 jq
  generalize(V.setCell ⟨g6,0,none⟩ (aC aB (t.x-s.x))).setCell ⟨g6,1,none⟩ (aC aB (t.y-s.y))=V2 at *
  obtain⟨u0,u1,-,-,l5⟩:=rH q5
  obtain⟨v0,v1,-,-,l6⟩:=rH q6
  have h1:=H1.out.below hb2 HRW.out.2
  have r0:=h1.cell 0
  have rz:=h1.fz 0
  simp only[aJ,aI]at r0
  have ZO:=zq hb2
  have H1':=zq h1
  have lr:=h1.lt
  clear q5 q6 hb2 h1 H1 HQ Hg5 Hg6 js HRW
  have HF:=zq ((fQ ZO.out).from W1.heap.size)
  have HG:=zq (dW.below (ks:=pT Bs a n) ZO.out Hrw.out)
  have Wa:=zq (aQ H2.out ZO.out)
  have Mr:=zq (HF.out.trans ((dG V2 ⟨RB,0,none⟩ (aV false)).from _))
  have q7:=H1'.out.set 0 (aV false)
  simp only[aM,aT]at q7
  have Uo:=zq q7
  have Ig:=zq (Wa.out.setCell (p:=⟨RB,0,none⟩) (by show w.heap.size≤RB;exact A9 di.out) (aV false))
  clear q7
  have hx:bK (∀b,anyN (De l) (k+1)=b→b=false∧anyN (De l) (k+1)=false∨b=true∧anyN (De l) n=true):=fun b hb=>by
   cases b
   ·exact .inl ⟨rfl,hb⟩
   ·obtain⟨j,h1,h2⟩:=eA.1 hb
    exact .inr ⟨rfl,eA.2 ⟨j,by have:=HK.out;omega,h2⟩⟩
  have hy:=zq (hx.out _ E1.out)
  clear hx E1
  unfold badQ at hy
  obtain⟨c1,h1⟩:=nm (t.x-s.x==0)
  obtain⟨c2,h2⟩:=nm (t.y-s.y==0)
  obtain⟨c3,h3⟩:=nm (s.x-p.x==0)
  rw[h1,h2,h3]at hy
  cases c1<;>cases c2<;>cases c3
  all_goals
   have hb:=hy.out
   simp at hb
   clear hy
   have Hb:=zq hb
   clear hb
   gi_wp2
   first
    |exact⟨HF.out,HG.out,H1'.out,Wa.out,Hb.out⟩
    |exact⟨Mr.out,rfl,Uo.out,Ig.out,Hb.out⟩
    |(trace_state;fail)
 ·obtain⟨h1,h2,h3⟩:=hI
  have r0:=h1.cell 0
  have rz:=h1.fz 0
  have lr:=h1.lt
  simp only[aJ,aI]at r0
  have HK:=zq (((dG W ⟨RB,0,none⟩ (aV true)).same D _ hK rfl))
  have q7:=h1.set 0 (aV true)
  simp only[aM,aT]at q7
  have Uo:=zq q7
  have Ig:=zq (h2.setCell (p:=⟨RB,0,none⟩) (by show w.heap.size≤RB;exact A9 di.out) (aV true))
  have HD:=zq (aU eC.out.size hD)
  have E:bK ((decide (4≤n)&& !anyN (De l) n)=true):=by show _=_;rw[decide_eq_true (by omega),h3];rfl
  clear h1 h2 h3 hK hD q7
  go_wp2
  exact postD rfl (nD HK.out) (mY rfl _ _ RB (aV true) rfl ((Uo.out.putObj _ HK.out rfl).cell 0) (Df _)) ⟨by rw[E.out],Ig.out.trans (qV HD.out HK.out)⟩
 ·obtain⟨rfl,h1,h2,h3⟩:=hI
  have E:bK ((decide (4≤n)&& !anyN (De l) n)=false):=by show _=_;rw[h3,Bool.not_true,R8]
  have HD:=zq (aU eC.out.size hD)
  go_wp2
  exact postD rfl (nD hK) (mY rfl _ _ RB (aV false) rfl ((h1.putObj _ hK rfl).cell 0) (Df _)) ⟨by rw[E.out],h2.trans (qV HD.out hK)⟩
theorem pm_one(x y:Int):(tB x*tB x+tB y*tB y=1)↔((x==0)==(y==0))=false:=by
 have h1:=pH x;have h2:=pH y;have z1:=uU x;have z2:=uU y;have e1:(x==0)=decide (tB x=0):=BB (by omega);have e2:(y==0)=decide (tB y=0):=BB (by omega);rw[e1,e2];generalize tB x=u at *;generalize tB y=v at *;obtain rfl|rfl|rfl:u= -1∨u=0∨u=1:=by omega
 all_goals obtain rfl|rfl|rfl:v= -1∨v=0∨v=1:=by omega
 all_goals decide
theorem trn_one{a b c d:Int}(h1:((a==0)==(b==0))=false)(h2:((c==0)==(d==0))=false):tB a*tB d-tB b*tB c=0↔((a==0)==(c==0))=true:=by
 have k1:=pH a;have k2:=pH b;have k3:=pH c;have k4:=pH d;rw[BB (p:=tB a=0) (by have:=uU a;omega),BB (p:=tB b=0) (by have:=uU b;omega)]at h1;rw[BB (p:=tB c=0) (by have:=uU c;omega),BB (p:=tB d=0) (by have:=uU d;omega)]at h2;rw[BB (a:=a) (p:=tB a=0) (by have:=uU a;omega),BB (a:=c) (p:=tB c=0) (by have:=uU c;omega)];generalize tB a=u at *;generalize tB b=v at *;generalize tB c=x at *;generalize tB d=y at *;obtain rfl|rfl|rfl:u= -1∨u=0∨u=1:=by omega
 all_goals obtain rfl|rfl|rfl:v= -1∨v=0∨v=1:=by omega
 all_goals first |(exfalso;revert h1;decide)|skip
 all_goals obtain rfl|rfl|rfl:x= -1∨x=0∨x=1:=by omega
 all_goals obtain rfl|rfl|rfl:y= -1∨y=0∨y=1:=by omega
 all_goals first |(exfalso;revert h2;decide)|decide
theorem GU{l:List Sd}{k:Nat}(hk:k<l.length):fF l (pre l.length k)=l.getD k default:=by
 unfold fF pre;congr 1;rcases Nat.eq_zero_or_pos k with h|h
 ·subst h;rw[cC,bY (by omega:l.length-1<l.length),show l.length-1+1=l.length by omega,Nat.mod_self]
 ·rw[show k+l.length-1=(k-1)+l.length by omega,Nat.add_mod_right,bY (by omega:k-1<l.length),show k-1+1=k by omega,bY hk]
theorem shp_eq(l:List Sd):nP l=(decide (4≤l.length)&& !anyN (De l) l.length):=by
 unfold nP;rw[Bool.and_comm];congr 2;have key:(∀k,k<l.length→uT l k=false)↔(∀k,k<l.length→De l k=false):=by
  have a1:∀k,(BQ l k*BQ l k+dY l k*dY l k=1)↔(((fF l k).x-(l.getD k default).x==0)==((fF l k).y-(l.getD k default).y==0))=false:=fun k=>pm_one _ _;have a2:∀k,k<l.length→(((l.getD k default).x-(l.getD (pre l.length k) default).x==0)==((l.getD k default).y-(l.getD (pre l.length k) default).y==0))=false→(((fF l k).x-(l.getD k default).x==0)==((fF l k).y-(l.getD k default).y==0))=false→
   (Ss l k=0↔(((l.getD k default).x-(l.getD (pre l.length k) default).x==0)==((fF l k).x-(l.getD k default).x==0))=true):=fun k hk h1 h2=>by
   have:=trn_one h1 h2;unfold Ss BQ dY;rw[GU hk];exact this
  constructor
  ·intro h k hk;have b1:=h k hk;have b2:=h _ (Je hk);unfold uT at b1 b2;simp only[kC,Bool.not_eq_false',decide_eq_true_eq,decide_eq_false_iff_not]at b1 b2;have c1:=(a1 k).1 b1.1;have c2:=(a1 _).1 b2.1;rw[GU hk]at c2;unfold De badQ;rw[c1,oM];cases e:(((l.getD k default).x-(l.getD (pre l.length k) default).x==0)==((fF l k).x-(l.getD k default).x==0))
   ·rfl
   ·exact absurd ((a2 k hk c2 c1).2 e) b1.2
  ·intro h k hk;have b1:=h k hk;have b2:=h _ (Je hk);unfold De badQ at b1 b2;rw[kC]at b1 b2;have c2:=b2.1;rw[GU hk]at c2;unfold uT;rw[decide_eq_true ((a1 k).2 b1.1),decide_eq_false (fun e=>by have:=(a2 k hk c2 b1.1).1 e;rw[b1.2]at this;cases this)];rfl
 rw[pI];have n1:= @cP (uT l) l.length;have n2:= @cP (De l) l.length;cases e1:anyN (uT l) l.length<;>cases e2:anyN (De l) l.length
 ·simp
 ·rw[n2.2 (key.1 (n1.1 e1))]at e2;cases e2
 ·rw[n1.2 (key.2 (n2.1 e2))]at e1;cases e1
 ·simp
theorem jt(a:Option cO)(n cap:Nat)(l:List Sd)(w:aF)(hl:l.length=n)(hn:n≤1000)(hC:AH l)(r:kY w a l):
 bE aE 59 #[aD a n cap] w (Rt (aV (nP l)) w):=by
 rw[shp_eq,hl];exact X8 a n cap l w hl hn hC r
end
end
section
open Go Go.RowKit Go.Lib
theorem Fp(n f t:Int)(w:aF):bE aE 125 #[aC aB n,aC aB f,aC aB t] w fun e w'=>e=bA (aV (!outI n f t))∧w=w':=by
 have E:bK ((!outI n f t)=(decide (f≤n)&&decide (n≤t))):=by
  show _=_;unfold outI;rw[Bool.not_or,←decide_not,←decide_not];congr 1<;>(congr 1;simp[Int.not_lt])
 generalize(!outI n f t)=R at *;by_cases h:f≤n
 ·rw[decide_eq_true h,vN]at E;have h':n≥f:=h;go_enter func125,ntmps125;go_wp2;go_ret;exact⟨by rw[E.out]<;>rfl,rfl⟩
 ·rw[decide_eq_false h,zT]at E;have h':(f≤n)=False:=eq_false h;go_enter func125,ntmps125;go_wp2;go_ret;exact⟨by rw[E.out]<;>rfl,rfl⟩
def X9(x y p o:Int)(k:Nat):Bool:=outI ([x,y,p,o].getD k 0) 0 65536
theorem ju(s:Sd)(w:aF):bE aE 56 #[s.v] w (Rt (aV (vV s)) w):=by
 obtain⟨x,y,rise,run,gable,plate,over⟩:=s;have E:bK (vV ⟨x,y,rise,run,gable,plate,over⟩=(!(anyN (X9 x y plate over) 4)&&(if gable=true then(rise==0)&&(run==0)else !outI rise 1 48&& !outI run 1 48))):=by
  show _=_;unfold vV anyN anyN anyN anyN anyN X9;simp only[List.getD_cons_zero,List.getD_cons_succ,oM,Bool.or_assoc]
 have H5:=zq (fun W=>Fp rise 1 48 W);have H6:=zq (fun W=>Fp run 1 48 W);have HO:=zq (fun k W=>Fp ([x,y,plate,over].getD k 0) 0 65536 W);have EK:bK (∀k,X9 x y plate over k=outI ([x,y,plate,over].getD k 0) 0 65536):=fun k=>rfl;have Sj:bK (∀k,k<4→X9 x y plate over k=true→anyN (X9 x y plate over) 4=true):=fun k hk h=>eA.2 ⟨k,hk,h⟩;generalize vV ⟨x,y,rise,run,gable,plate,over⟩=R at *;obtain⟨A,hA⟩:=nm (anyN (X9 x y plate over) 4);rw[hA]at E;generalize outI rise 1 48=b5 at *;generalize outI run 1 48=b6 at *;have HB:=zq ((aL _ w).alloc (aH _) (aN #[aC aB x,aC aB y,aC aB rise,aC aB run,aV gable,aC aB plate,aC aB over] 56));have hq:=bT.new w #[aC aB x,aC aB y,aC aB rise,aC aB run,aV gable,aC aB plate,aC aB over] 56;obtain⟨W0,eY⟩:=nm (w.alloc (aN #[aC aB x,aC aB y,aC aB rise,aC aB run,aV gable,aC aB plate,aC aB over] 56));rw[eY]at HB hq;have HW:=zq eY;have HQ:=zq hq;have hx:bK ((gable=true∧((rise==0)=false∧R=false∨rise=0∧(run==0)=false∧R=false)∨gable=false∧(b5=true∧R=false∨b5=false∧b6=true∧R=false))∨(gable=true∧rise=0∧run=0∨gable=false∧b5=false∧b6=false)∧R= !A):=by
  show _∨_;rw[E.out];cases A<;>cases gable<;>cases b5<;>cases b6<;>by_cases h:rise=0<;>by_cases h2:run=0<;>simp[h,h2]
 have HA:=zq hA;clear E eY hq hA;unfold Sd.v Sd.cells;simp only[];refine dM func56 rfl ?_;simp only[ntmps56,cD,bD,bV,dQ,dR,cA,cB,cR,cH,dF,cJ];go_upto_region 1 with(fail)
 rw[HW.out];clear HW;obtain⟨s0,s1,s2,s3,s4,s5,s6⟩:=BR HQ.out;rcases hx.out with(⟨rfl,(⟨h,rfl⟩|⟨rfl,h,rfl⟩)⟩|⟨rfl,(⟨rfl,rfl⟩|⟨rfl,rfl,rfl⟩)⟩)|⟨(⟨rfl,rfl,rfl⟩|⟨rfl,rfl,rfl⟩),rfl⟩;all_goals clear hx
 iterate 4
  ·go_wp2_with (first
    |((with_reducible refine(H5.out _).mono ?_);rintro e w1 ⟨rfl,rfl⟩)
    |((with_reducible refine(H6.out _).mono ?_);rintro e w1 ⟨rfl,rfl⟩)
    |fail)
   exact oC (iS Of _ _ _) rfl ⟨rfl,HB.out⟩
 all_goals
  go_wp2_with (first
   |((with_reducible refine(H5.out _).mono ?_);rintro e w1 ⟨rfl,rfl⟩)
   |((with_reducible refine(H6.out _).mono ?_);rintro e w1 ⟨rfl,rfl⟩)
   |fail)
  have HN:=zq (HB.out.alloc HB.out.size (aN #[aC aB x,aC aB y,aC aB plate,aC aB over] 3));have hv:=bT.new W0 #[aC aB x,aC aB y,aC aB plate,aC aB over] 3;obtain⟨W1,rS⟩:=nm (W0.alloc (aN #[aC aB x,aC aB y,aC aB plate,aC aB over] 3));rw[rS]at HN hv⊢;generalize W0.heap.size=VB at *;have Hc:bK (∀k,k<4→W1.cell? ⟨VB,k,none⟩=some (aC aB ([x,y,plate,over].getD k 0))):=fun k hk=>by
   obtain rfl|rfl|rfl|rfl:k=0∨k=1∨k=2∨k=3:=by omega
   all_goals exact hv.cell _
  clear rS hv HB HQ s0 s1 s2 s3 s4 s5 s6 H5 H6;go_loopw[35] (fun i wr=>∃k:Nat,i=aC aB k∧k≤4∧wr=W1∧bK (anyN (X9 x y plate over) k=false)) (fun i _=>4-(aK i).toNat);case atStart=>exact⟨0,rfl,by omega,rfl,rfl⟩
  case round=>
   obtain⟨k,rfl,hk,rfl,HP⟩:=hrel;by_cases hlt:k<4
   ·have ck:=Hc.out k hlt;have HOk:=zq (HO.out k);have e:=zq (EK.out k);obtain⟨v,hv⟩:=nm ([x,y,plate,over].getD k 0);rw[hv]at ck HOk e;cases ho:outI v 0 65536
    ·rw[ho]at e HOk;have hs:=zq (gH HP.out e.out);clear Hc;go_wp2_with (first
      |((with_reducible refine(HOk.out _).mono ?_);rintro e w1 ⟨rfl,rfl⟩)
      |fail)
     go_roundw;case rel=>exact⟨k+1,by go_num,by omega,by simp,hs.out⟩
     case measure=>simp only[aK];omega
    ·rw[ho]at e HOk;have hs:=zq (Sj.out k hlt e.out);rw[HA.out]at hs;clear Hc;go_wp2_with (first
      |((with_reducible refine(HOk.out _).mono ?_);rintro e w1 ⟨rfl,rfl⟩)
      |fail)
     exact oC (iS Of _ _ _) rfl ⟨by rw[hs.out]<;>rfl,HN.out⟩
   ·obtain rfl:k=4:=by omega
    have e:=HP.out;rw[HA.out]at e;go_wp2;exact oC (iS Of _ _ _) rfl ⟨by rw[e]<;>rfl,HN.out⟩
theorem jv(s:Sd)(w:aF):bE aE 55 #[s.v] w (Rt (aV (!vV s)) w):=by
 have HB:=zq ((aL _ w).alloc (aH _) (aN s.cells 56));have hq:=bT.new w s.cells 56;obtain⟨W0,eY⟩:=nm (w.alloc (aN s.cells 56));rw[eY]at HB hq;have HW:=zq eY;have HQ:=zq hq;have HR:=zq (ju s W0);clear eY hq;obtain⟨x,y,rise,run,gable,plate,over⟩:=s;generalize vV ⟨x,y,rise,run,gable,plate,over⟩=B at *;unfold Sd.v Sd.cells at *;simp only[]at *;refine dM func55 rfl ?_;simp only[ntmps55,cD,bD,bV,dQ,dR,cA,cB,cR,cH,dF,cJ];go_upto_region 1 with(fail)
 rw[HW.out];clear HW;obtain⟨s0,s1,s2,s3,s4,s5,s6⟩:=BR HQ.out;go_wp2_with fail
 refine HR.out.mono ?_;rintro e W⟨rfl,hb⟩;have hb:=zq (aQ HB.out hb);go_wp2;exact oC (iS Tryz.results55 _ _ _) rfl ⟨rfl,hb.out⟩
def bxV(a b c d:Int):aP:=cF #[aC aB a,aC aB b,aC aB c,aC aB d]
theorem four{W:aF}{b:Nat}{u0 u1 u2 u3:aP}{T:dT}(h:bT W b #[u0,u1,u2,u3] T):W.cell? ⟨b,0,none⟩=some u0∧W.cell? ⟨b,1,none⟩=some u1∧W.cell? ⟨b,2,none⟩=some u2∧W.cell? ⟨b,3,none⟩=some u3:=⟨h.cell 0,h.cell 1,h.cell 2,h.cell 3⟩
theorem K8{w W0:aF}{cs ds:Array aP}{T1 T2:dT}(h:(w.alloc (aN cs T1)).alloc (aN ds T2)=W0):bT W0 w.heap.size cs T1∧bT W0 (w.heap.size+1) ds T2∧Below w.heap.size w W0:=MO h
theorem pl_meets(a b c d p q r s:Int)(w:aF):bE aE 130 #[bxV a b c d,bxV p q r s] w fun e w'=>
 e=bA (aV (decide (a≤r)&&(decide (p≤c)&&(decide (b≤s)&&decide (q≤d)))))∧Below w.heap.size w w':=by
 obtain⟨W0,eY⟩:=nm ((w.alloc (aN #[aC aB a,aC aB b,aC aB c,aC aB d] 194)).alloc (aN #[aC aB p,aC aB q,aC aB r,aC aB s] 194));obtain⟨h1,h2,h3⟩:=K8 eY;have HB:=zq h3;obtain⟨s0,s1,s2,s3⟩:=four h1;obtain⟨r0,r1,r2,r3⟩:=four h2;have HW:=zq eY;obtain⟨T,hT⟩:=nm (decide (a≤r)&&(decide (p≤c)&&(decide (b≤s)&&decide (q≤d))));rw[hT];have hx:bK ((a≤r)=False∧T=false∨a≤r∧(p≤c)=False∧T=false∨a≤r∧p≤c∧(b≤s)=False∧T=false∨a≤r∧p≤c∧b≤s∧T=decide (q≤d)):=by
  rw[←hT];show _∨_;by_cases h1:a≤r<;>by_cases h2:p≤c<;>by_cases h3:b≤s<;>simp only[h1,h2,h3,decide_true,decide_false,vN,zT,true_and,false_and,and_true,and_false,or_true,or_false,false_or,true_or,eq_self_iff_true,not_true,not_false_eq_true]
 clear hT h1 h2 h3 eY;unfold bxV;refine dM func130 rfl ?_;simp only[ntmps130,cD,bD,bV,dQ,dR,cA,cB,cR,cH,dF,cJ];go_upto_region 1 with(fail)
 rw[HW.out];clear HW;rcases hx.out with⟨h1,rfl⟩|⟨h1,h2,rfl⟩|⟨h1,h2,h3,rfl⟩|⟨h1,h2,h3,rfl⟩;all_goals
  clear hx;go_wp2;exact oC (iS Tryz.results130 _ _ _) rfl ⟨rfl,HB.out⟩
theorem agg_box(W:aF):(isAgg 194).run aE W=.ok true W:=by first |rfl|kernel_rfl
theorem size_box(W:aF):(sizeOf 194).run aE W=.ok 4 W:=by first |rfl|kernel_rfl
theorem Jg{P:dN}{fn:Func}{p:Tmp}{ty T:dT}(h:fn.results= #[.cell p ty])(tmps:Array aP)(w:aF)(g:Nat)(x y z u:aP)
 (hp:tmps.getD p aO=aY (some ⟨g,0,none⟩))(hb:bT w g #[x,y,z,u] T)(ha:∀w,(isAgg ty).run P w=.ok true w)(hs:∀w,(sizeOf ty).run P w=.ok 4 w):
 (lF fn tmps).run P w=.ok (cF #[x,y,z,u]) w:=by
 have Td:tmps[p]?.getD aO=aY (some ⟨g,0,none⟩):=by simpa using hp
 have c0:=hb.cell 0;have c1:=hb.cell 1;have c2:=hb.cell 2;have c3:=hb.cell 3;simp only[aJ,aI,bC]at c0 c1 c2 c3;simp[lF,h,go_sem,Td,c0,c1,c2,c3,ha,hs]
theorem bT.set4{W:aF}{b:Nat}{x y z o:aP}{T:dT}(h:bT W b #[x,y,z,o] T)(u v r q:aP):bT ((((W.setCell ⟨b,0,none⟩ u).setCell ⟨b,1,none⟩ v).setCell ⟨b,2,none⟩ r).setCell ⟨b,3,none⟩ q) b #[u,v,r,q] T:=(((h.set 0 u).set 1 v).set 2 r).set 3 q
theorem Ya{B:Nat}{w W:aF}(h:Below B w W){c:Nat}(hc:B≤c)(u v r q:aP):Below B w ((((W.setCell ⟨c,0,none⟩ u).setCell ⟨c,1,none⟩ v).setCell ⟨c,2,none⟩ r).setCell ⟨c,3,none⟩ q):=
 (((h.setCell (p:=⟨c,0,none⟩) hc u).setCell (p:=⟨c,1,none⟩) hc v).setCell (p:=⟨c,2,none⟩) hc r).setCell (p:=⟨c,3,none⟩) hc q
theorem pl_boxOf(p s t:Sd)(w:aF):bE aE 129 #[cF (GP p s t)] w fun e w'=>
 e=bA (bxV (BZ s.x t.x) (BZ s.y t.y) (B7 s.x t.x) (B7 s.y t.y))∧Below w.heap.size w w':=by
 obtain⟨W0,eY⟩:=nm ((w.alloc (aN (GP p s t) 140)).alloc (aN #[aC aB 0,aC aB 0,aC aB 0,aC aB 0] 194));obtain⟨h1,h2,h3⟩:=K8 eY;have HB:=zq h3;have H1:=zq h1;have H2:=zq h2;have HW:=zq eY;have BM:=zq (fun W=>mA s W);have GQ:=zq (fun W=>mA t W);clear h1 h2 h3 eY;refine dM func129 rfl ?_;simp only[ntmps129,cD,bD,bV,dQ,dR,cA,cB,cR,cH,dF,cJ];go_upto_region 1 with(fail)
 rw[HW.out];clear HW;obtain⟨Q,hQ⟩:=nm w.heap.size;have HRW:bK (Q+1<W0.heap.size):=by rw[←hQ];exact H2.out.lt
 have HQe:=zq hQ;rw[hQ]at H1 H2;have E1:w.heap.size+1=Q+1:=by rw[hQ]
 rw[hQ]at⊢;refine qU 9 (fun |6=>.alloc #[aC aB 0,aC aB 0] 142|7=>.alloc #[aC aB 0,aC aB 0] 142|8=>.store|_=>.quiet) (fun w'=>bT w' Q (GP p s t) 140) H1.out ?_ (st:=fun w1 w2 h hb=>h.below hb H1.out.lt);refine qS 0 rfl (pu ?_);refine qL 1 Q 7 #[aC aB s.x,aC aB s.y,aC aB s.rise,aC aB s.run,aV s.gable,aC aB s.plate,aC aB s.over] (fun V h=>h.1) rfl (pu ?_);refine qC 2 (fun W _=>BM.out W) rfl (pu ?_);refine qS 3 rfl (pu ?_);refine qL 4 Q 14 #[aC aB t.x,aC aB t.y,aC aB t.rise,aC aB t.run,aV t.gable,aC aB t.plate,aC aB t.over] (fun V h=>h.1) rfl (pu ?_);refine qC 5 (fun W _=>GQ.out W) rfl (pu ?_);refine qA 6 [6,7] #[aC aB 0,aC aB 0] 142 rfl (fun g5 Zr hn5=>pu ?_) (hal:=fun j hj=>by simp at hj;rcases hj with rfl|rfl<;>exact⟨_,_,rfl,by decide⟩);refine qA 7 [7] #[aC aB 0,aC aB 0] 142 rfl (fun g6 hg6 hn6=>pu ?_) (hal:=fun j hj=>by simp at hj;rcases hj with rfl;exact⟨_,_,rfl,by decide⟩);have iC:g5≠g6:=fun e=>by subst e;unfold Ch at hn6;rw[ip rfl]at hn6;cases hn6
 refine qW 8 g5 #[aC aB s.x,aC aB s.y] #[aC aB 0,aC aB 0] 142 rfl (by unfold Ch;rw[iN iC,ip rfl]) Zr ?_ UJ;refine qT fun V hV hG=>?_;have b5:bT V g5 #[aC aB s.x,aC aB s.y] 142:=hG g5 _ _ (by unfold Ch;rw[ip rfl]);have b6:bT V g6 #[aC aB 0,aC aB 0] 142:=hG g6 _ _ (by unfold Ch;rw[iN (Ne.symm iC),ip rfl]);have rU:=hV.b;obtain⟨e0,e1,z0,z1,l6⟩:=rH b6;have B6:=zq b6;have B5:=zq b5;have jq:=zq rU;have Hg6:=zq hg6;have Hg5:=zq Zr;have js:=zq iC;clear b5 b6 rU hV hG hg6 Zr hn5 hn6 iC BM GQ;refine eI 9 [] rfl (fun K hK=>?_) eB;rw[ip (by kernel_rfl)];go_simp;refine hK _ _ (pu ?_);refine pM (by kernel_rfl) ?_ _;refine iM.normal ?_;have q6:=(B6.out.set 0 (aC aB t.x)).set 1 (aC aB t.y);simp only[aM,aT,aW]at q6;have q5:=(B5.out.other (a:=⟨g6,0,none⟩) (aC aB t.x) js.out).other (a:=⟨g6,1,none⟩) (aC aB t.y) js.out;have hb2:=(jq.out.setCell (p:=⟨g6,0,none⟩) Hg6.out (aC aB t.x)).setCell (p:=⟨g6,1,none⟩) Hg6.out (aC aB t.y);clear hK e0 e1 z0 z1 l6 B6 B5 jq;generalize(V.setCell ⟨g6,0,none⟩ (aC aB t.x)).setCell ⟨g6,1,none⟩ (aC aB t.y)=V2 at *;obtain⟨u0,u1,-,-,l5⟩:=rH q5;obtain⟨v0,v1,-,-,l6⟩:=rH q6;have h2:=H2.out.below hb2 HRW.out;have lr:=h2.lt;have y0:=h2.fz 0;have y1:=h2.fz 1;have y2:=h2.fz 2;have y3:=h2.fz 3;obtain⟨w0,w1,w2,w3⟩:=four h2;have H2':=zq h2;have ZO:=zq (aQ HB.out hb2);obtain⟨A1,jk⟩:∃x,(if t.x<s.x then t.x else s.x)=x:=⟨_,rfl⟩;obtain⟨A2,hA2⟩:∃x,(if s.x<t.x then t.x else s.x)=x:=⟨_,rfl⟩;obtain⟨A3,hA3⟩:∃x,(if t.y<s.y then t.y else s.y)=x:=⟨_,rfl⟩;obtain⟨A4,hA4⟩:∃x,(if s.y<t.y then t.y else s.y)=x:=⟨_,rfl⟩;have mA1:=Bz jk;have mA2:=BA hA2;have mA3:=Bz hA3;have mA4:=BA hA4;clear h2 hb2 H1 H2 q5 q6;go_wp2;refine oC (v:=bxV A1 A3 A2 A4) (Jg rfl _ _ (Q+1) _ _ _ _ rfl (bT.set4 H2'.out _ _ _ _) agg_box size_box) rfl ⟨?_,Ya ZO.out (by rw[←HQe.out];exact Hv _) _ _ _ _⟩;unfold BZ B7;rw[jk,hA2,hA3,hA4]
def EF(f:Nat→List Sd)(r s:Nat):Bool:= !decide (s=r)&&(GR (f s) ((f r).getD 0 default).x ((f r).getD 0 default).y !=decide (s=0))
def yT(f:Nat→List Sd)(N r:Nat):Bool:=decide (0≤jL (f r) (f r).length)||anyN (EF f r) N
def zJ(f:Nat→List Sd)(N:Nat):Bool:= !decide (jL (f 0) (f 0).length≤0)&& !anyN (fun r=>decide (1≤r)&&yT f N r) N
theorem plc_hit{f:Nat→List Sd}{N r:Nat}(h1:1≤r)(h2:r<N)(h:yT f N r=true):zJ f N=false:=by
 unfold zJ;rw[eA.2 ⟨r,h2,by rw[decide_eq_true h1,h];rfl⟩];simp
theorem Yb (a:Option cO) (N cap:Nat) (rs:List Rg) (w:aF) (hl:rs.length=N) (hN:N≤1000) (JY:0 < N) (hn:∀ r,(bF rs r).length≤1000) (hp:∀ r,r < N→0 < (bF rs r).length) (hC:∀ r,AH (bF rs r)) (rr:GN w a rs) :
    bE aE 40 #[aD a N cap] w fun e w' => e=bA (aV (zJ (bF rs) N))∧Dr w w' :=by
  have HT:=zq (fun r (_:r < N) W (hW:Dr w W)=> ji (rs.getD r default).a (bF rs r).length (rs.getD r default).cap (bF rs r) W rfl (hn r) (hC r) ((rr.below hW.below).at (i:=r) (by omega) rfl).choose_spec.choose_spec.2.2)
  have HI:=zq (fun r (_:r < N) x y W (hW:Dr w W)=> X7 (rs.getD r default).a (bF rs r).length (rs.getD r default).cap (bF rs r) x y W rfl (hn r) ((rr.below hW.below).at (i:=r) (by omega) rfl).choose_spec.choose_spec.2.2)
  have HR:=zq rr
  have HL:=zq hl
  have HP:=zq hp
  have X1:bK (decide (jL (bF rs 0) (bF rs 0).length≤0)=true→zJ (bF rs) N=false):=fun h=> by unfold zJ;rw [h];rfl
  have X2:bK (∀ r,1≤r→r < N→yT (bF rs) N r=true→zJ (bF rs) N=false):=fun r h1 h2 h=> plc_hit h1 h2 h
  have X3:bK (decide (jL (bF rs 0) (bF rs 0).length≤0)=false→anyN (fun r=> decide (1≤r) && yT (bF rs) N r) N=false→zJ (bF rs) N=true):=fun h h2=> by unfold zJ;rw [h,h2];rfl
  clear hl rr hp hn hC
  generalize zJ (bF rs) N=R at *
  obtain⟨b,o,rfl,c0, -⟩:=HR.out.at (i:=0) (by rw [HL.out];exact JY) rfl
  have ZG:=zq (HT.out 0 JY w (.refl w))
  rw [show(rs.getD 0 default).ss.length=(bF rs 0).length from rfl,oG] at c0
  generalize (bF rs 0).length=n0 at *
  generalize (rs.getD 0 default).a=a0 at *
  generalize (rs.getD 0 default).cap=q0 at *
  generalize jL (bF rs 0) n0=T0 at *
  go_enter func40,ntmps40
  go_wp2_with fail
  refine ZG.out.mono ?_
  rintro e W ⟨rfl,hd⟩
  have HD:=zq hd
  clear hd ZG c0
  by_cases h0:T0≤0
  · have e1:=zq (X1.out (decide_eq_true h0))
    go_wp2
    go_ret
    exact⟨by rw [e1.out] <;> rfl,HD.out⟩
  · have e0:=zq (X3.out (decide_eq_false h0))
    clear X1 X3
    go_wp2
    go_loopw [3] (fun i wr=> ∃ r:Nat,i=aC aB r∧1≤r∧r≤N∧bK (anyN (fun r=> decide (1≤r) && yT (bF rs) N r) r=false)∧bK (Dr w wr)) (fun i _=> N - (aK i).toNat)
    case atStart=> exact⟨1,rfl,aH _,JY,rfl,HD.out⟩
    case round=>
      clear HD
      obtain⟨r,rfl,hr1,hr,HA,HD⟩:=hrel
      rename aF=> wr
      by_cases hrN:r < N
      · obtain⟨b',o',e1,c0,Pn⟩:=(HR.out.below HD.out.below).at (i:=r) (by rw [HL.out];exact hrN) rfl
        injection e1 with e1;injection e1 with e1 e2;subst e1 e2
        have Nu:=zq (HT.out r hrN wr HD.out)
        have hpr:0 < (rs.getD r default).ss.length:=HP.out r hrN
        have hpn:=HP.out r hrN
        have ED:=zq Pn
        have E:bK (yT (bF rs) N r=(decide (0≤jL (bF rs r) (bF rs r).length) || anyN (EF (bF rs) r) N)):=rfl
        have X2r:=zq (X2.out r hr1 hrN)
        have X4:=zq (fun h:yT (bF rs) N r=false=> gH (p:=fun r=> decide (1≤r) && yT (bF rs) N r) HA.out (by rw [decide_eq_true hr1,h];rfl))
        rw [show(rs.getD r default).ss.length=(bF rs r).length from rfl] at c0
        clear Pn
        generalize (bF rs r).length=n at *
        generalize (rs.getD r default).a=ar at *
        generalize (rs.getD r default).cap=cr at *
        generalize jL (bF rs r) n=T at *
        have hrI:(r:Int) < N:=by omega
        go_wp2_with fail
        refine Nu.out.mono ?_
        rintro e W2 ⟨rfl,hd⟩
        have NM:=zq (HD.out.trans hd)
        have c0:=bR hd.below c0
        have ED:=zq (ED.out.below hd.below)
        clear hd Nu
        by_cases h1:0≤T
        · have e1:=zq (X2r.out (by rw [E.out,decide_eq_true h1];rfl))
          go_wp2
          go_ret
          exact⟨by rw [e1.out] <;> rfl,NM.out⟩
        · rw [decide_eq_false h1,oM] at E
          obtain⟨ab,ao,rfl,d0,d1, -⟩:=ED.out.at (i:=0) hpr rfl
          simp only [yW,oG] at d0 d1
          have HRz:=zq ED.out
          clear ED
          go_wp2
          go_loopw [4] (fun i ws=> ∃ s:Nat,i=aC aB s∧s≤N∧bK (anyN (EF (bF rs) r) s=false)∧bK (Dr W2 ws)) (fun i _=> N - (aK i).toNat)
          case atStart=> exact⟨0,rfl,bM _,rfl,Dr.refl _⟩
          case round=>
            obtain⟨s,rfl,hs,NX,St⟩:=hrel
            rename aF=> ws
            by_cases hsN:s < N
            · obtain⟨b',o',e1,k0, -⟩:=(HR.out.below (NM.out.trans St.out).below).at (i:=s) (by rw [HL.out];exact hsN) rfl
              injection e1 with e1;injection e1 with e1 e2;subst e1 e2
              have c0:=bR St.out.below c0
              have d0:=bR St.out.below d0
              have d1:=bR St.out.below d1
              rw [show(rs.getD s default).ss.length=(bF rs s).length from rfl] at k0
              have HIs:=zq (fun W hW=> HI.out s hsN ((bF rs r).getD 0 default).x ((bF rs r).getD 0 default).y W hW)
              have E2:bK (EF (bF rs) r s=(!decide (s=r) && (GR (bF rs s) ((bF rs r).getD 0 default).x ((bF rs r).getD 0 default).y !=decide (s=0)))):=rfl
              have X5:=zq (fun h:EF (bF rs) r s=true=> X2r.out (by rw [E.out];exact eA.2 ⟨s,hsN,h⟩))
              have X6:=zq (fun h:EF (bF rs) r s=false=> gH NX.out h)
              have HDw:=zq (NM.out.trans St.out)
              have hsI:(s:Int) < N:=by omega
              generalize EF (bF rs) r s=B at *
              generalize GR (bF rs s) ((bF rs r).getD 0 default).x ((bF rs r).getD 0 default).y=I at *
              rw [show(rs.getD r default).ss=bF rs r from rfl] at d0 d1
              generalize ((bF rs r).getD 0 default).x=x0 at *
              generalize ((bF rs r).getD 0 default).y=y0 at *
              generalize (bF rs s).length=m at *
              generalize (rs.getD s default).a=as' at *
              generalize (rs.getD s default).cap=cs at *
              by_cases hsr:s=r
              · have hq:((s:Int) !=(r:Int))=false:=by rw [hsr];simp
                have e1:=zq (X6.out (by rw [E2.out,decide_eq_true hsr];rfl))
                clear hsr
                go_wp2
                go_quiet (fail)
                go_wp2
                go_roundw
                case rel=> exact⟨s + 1,by go_num,by omega,e1.out,St.out.trans (.drewN _ _)⟩
                case measure=> simp only [aK];omega
              · have hq:((s:Int) !=(r:Int))=true:=by rw [bne_iff_ne];omega
                have hz:((s:Int)==0)=decide (s=0):=BB (by omega)
                have hz' :decide (s=0)=decide (s=0):=rfl
                rw [decide_eq_false hsr,Bool.not_false,vN] at E2
                obtain⟨Z,hZ⟩:=nm (decide (s=0))
                rw [hZ] at hz E2
                clear hz' hZ hsr
                go_wp2
                go_quiet ((go_at_call 116;exact Calls.quiet_of (HIs.out _ (HDw.out.trans (.drewN _ _)))))
                cases I <;> cases Z
                case' true.false=> have e1:=zq (X5.out E2.out)
                case' false.true=> have e1:=zq (X5.out E2.out)
                case' true.true=> have e1:=zq (X6.out E2.out)
                case' false.false=> have e1:=zq (X6.out E2.out)
                all_goals
                  clear E2 X5 X6
                  go_wp2
                  first
                    | (go_roundw
                       case rel=> exact⟨s + 1,by go_num,by omega,e1.out,St.out.trans (.drewN _ _)⟩
                       case measure=> simp only [aK];omega)
                    | (go_ret;exact⟨by rw [e1.out] <;> rfl,HDw.out.trans (.drewN _ _)⟩)
                    | fail
            · obtain rfl:N=s:=by omega
              have e1:=zq (X4.out (by rw [E.out];exact NX.out))
              go_wp2
              go_roundw
              case rel=> exact⟨r + 1,by go_num,by omega,by omega,e1.out,NM.out.trans St.out⟩
              case measure=> simp only [aK];omega
      · obtain rfl:N=r:=by omega
        have e1:=zq (e0.out HA.out)
        go_wp2
        go_ret
        exact⟨by rw [e1.out] <;> rfl,HD.out⟩
def cE(f:Nat→List Sd):Nat→Nat
 |0=>0
 |n+1=>cE f n+(f n).length
def Kv(f:Nat→List Sd)(r:Nat):Bool:=decide ((f r).length=0)
def Jh(l:List Sd)(i:Nat):Bool:= !vV (l.getD i default)
def Fq(f:Nat→List Sd)(r:Nat):Bool:=anyN (Jh (f r)) (f r).length
def D0(f:Nat→List Sd)(r:Nat):Bool:= !nP (f r)
def oW(f:Nat→List Sd)(N:Nat):Int:=
 if N=0∨anyN (Kv f) N=true then 5 else if 24<cE f N then 4 else if anyN (Fq f) N=true then 2 else if anyN (D0 f) N=true then 14 else if Db f N=true then 15 else if(zJ f N&&Fo f N)=true then 0 else 14
theorem ZP{f:Nat→List Sd}{N:Nat}(h:N=0):oW f N=5:=by unfold oW;rw[ip (.inl h)]
theorem ZQ{f:Nat→List Sd}{N:Nat}(h:anyN (Kv f) N=true):oW f N=5:=by unfold oW;rw[ip (.inr h)]
theorem ZR{f:Nat→List Sd}{N:Nat}(h:N≠0)(h1:anyN (Kv f) N=false):oW f N=if 24<cE f N then 4 else if anyN (Fq f) N=true then 2 else if anyN (D0 f) N=true then 14 else if Db f N=true then 15 else if(zJ f N&&Fo f N)=true then 0 else 14:=by
 unfold oW;rw[iN];rintro(h2|h2)
 ·exact h h2
 ·rw[h1]at h2;cases h2
theorem DH{f:Nat→List Sd}{N:Nat}(h0:∀r,N≤r→f r=[])(h:anyN (Fq f) N=false):∀r,AH (f r):=fun r i=>by
 have hd:∀l:List Sd,l.length≤i→0≤(l.getD i default).x∧(l.getD i default).x≤65536∧0≤(l.getD i default).y∧(l.getD i default).y≤65536:=fun l hl=>by
  rw[aG,Ea hl]
  exact⟨G4 0,by decide,G4 0,by decide⟩
 rcases fP r N with hr|hr
 ·rcases fP i (f r).length with hi|hi
  ·have h2:=cP.1 (cP.1 h r hr) i hi
   unfold Jh vV outI at h2
   generalize(f r).getD i default=s at *
   simp at h2
   omega
  ·exact hd _ hi
 ·rw[h0 r hr];exact hd _ (bM _)
theorem BD{rs:List Rg}{r:Nat}(h:rs.length≤r):bF rs r=[]:=by
 unfold bF;rw[aG,Ea h];rfl
theorem jw (a:Option cO) (N cap:Nat) (rs:List Rg) (w:aF) (hl:rs.length=N) (hN:N≤1000) (hn:∀ r,(bF rs r).length≤1000) (rr:GN w a rs) :
 bE aE 15 #[cF #[aD a N cap]] w (Rt (aC aB (oW (bF rs) N)) w):=by
 have JT:=zq (fun (k:Nat) (hk:k≤N)=> (show cE (bF rs) k≤1000 * k from by
  clear hk;induction k with
  | zero=> exact aH _
  | succ k ih=> have:=hn k;show cE (bF rs) k + _≤_;omega))
 have HI:bK (anyN (Fq (bF rs)) N=false→∀ r,AH (bF rs r)):=fun h=> DH (fun r hr=> BD (by omega)) h;have HSh:=zq (fun (hc:∀ r,AH (bF rs r)) r (_:r < N) W (hW:Below w.heap.size w W)=> XR (rs.getD r default).a (bF rs r).length (rs.getD r default).cap (bF rs r) W rfl (hn r) (hc r) ((rr.below hW).at (i:=r) (by omega) rfl).choose_spec.choose_spec.2.2);have HCr:=zq (fun W (hW:Below w.heap.size w W)=> UO a N cap rs W hl hN hn (rr.below hW));have Zv:=zq (fun (h0:0 < N) (hp:∀ r,r < N→0 < (bF rs r).length) (hc:∀ r,AH (bF rs r)) W (hW:Below w.heap.size w W)=> qb (Yb a N cap rs W hl hN h0 hn hp hc (rr.below hW)));have HRx:=zq (fun (hc:∀ r,AH (bF rs r)) W (hW:Below w.heap.size w W)=> XU a N cap rs W hl hN hn hc (rr.below hW));have HRg:=zq XP;have HR:=zq rr;have HL:=zq hl;have Hn:=zq hn;have X0:bK (N=0→oW (bF rs) N=5):=ZP;have X1:bK (∀ r,r < N→(bF rs r).length=0→oW (bF rs) N=5):=fun r hr h=> ZQ (eA.2 ⟨r,hr,by unfold Kv;rw [decide_eq_true h]⟩);have X2:bK (N≠0→anyN (Kv (bF rs)) N=false→oW (bF rs) N=if 24 < cE (bF rs) N then 4 else if anyN (Fq (bF rs)) N=true then 2 else if anyN (D0 (bF rs)) N=true then 14 else if Db (bF rs) N=true then 15 else if (zJ (bF rs) N && Fo (bF rs) N)=true then 0 else 14):=ZR;clear hl hn rr;generalize oW (bF rs) N=R at *;have fE:=(aL _ w).alloc (aH _) (aN #[aD a N cap] 24);have tN:=bT.new w #[aD a N cap] 24;obtain⟨W0,eY⟩:=nm (w.alloc (aN #[aD a N cap] 24));rw [eY] at fE tN;have fV:=zq fE;have nO:=zq tN;have b0:=tN.cell 0;simp only [aJ,aI] at b0;clear fE tN;by_cases h0:N=0
 ·have e1:=zq (X0.out h0);subst h0;go_enter func15,ntmps15;go_wp2;go_ret;(try rw [eY]);exact⟨by rw [e1.out] <;> rfl,fV.out⟩
 ·have h0' :((N:Int)==0)=false:=by rw [beq_eq_false_iff_ne];omega
  replace X2:=zq (X2.out h0);have hpos:0 < N:=by omega
  clear X0 h0;go_enter func15,ntmps15;go_upto_region 1 with (fail)
  try rw [eY]
  clear eY;go_wp2;go_loopw [3,4] (fun t i wr=> ∃ r:Nat,i=aC aB r∧t=aC aB (cE (bF rs) r:Nat)∧r≤N∧bK (anyN (Kv (bF rs)) r=false)∧bK (Below W0.heap.size W0 wr)) (fun _ i _=> N - (aK i).toNat);case atStart=> exact⟨0,rfl,rfl,bM _,rfl,aL _ _⟩
  case round=>
   clear b0;obtain⟨r,rfl,rfl,hr,HA,HB⟩:=hrel;rename aF=> wr;have b0:=(nO.out.below HB.out nO.out.lt).cell 0;simp only [aJ,aI] at b0;by_cases hrN:r < N
   ·obtain⟨b,o,rfl,c0, -⟩:=(HR.out.below (aQ fV.out HB.out)).at (i:=r) (by rw [HL.out];exact hrN) rfl;rw [show(rs.getD r default).ss.length=(bF rs r).length from rfl] at c0;have GQ:=JT.out r hr;have hlen:=Hn.out r;have X1r:=zq (X1.out r hrN);have E1:bK (cE (bF rs) (r + 1)=cE (bF rs) r + (bF rs r).length):=rfl;have X3:=zq (fun h:(bF rs r).length≠0=> gH (p:=Kv (bF rs)) HA.out (by unfold Kv;rw [decide_eq_false h]));generalize cE (bF rs) r=C at *;generalize (bF rs r).length=n at *;have hrI:(r:Int) < N:=by omega
    by_cases hz:n=0
    ·have e1:=zq (X1r.out hz);subst hz;go_wp2;go_ret;exact⟨by rw [e1.out] <;> rfl,aQ fV.out HB.out⟩
    ·have hz' :((n:Int)==0)=false:=by rw [beq_eq_false_iff_ne];omega
     have e1:=zq (X3.out hz);clear hz X3 X1r;go_wp2;go_roundw;case rel=> exact⟨r + 1,by go_num,by rw [E1.out] <;> go_num,by omega,e1.out,HB.out⟩
     case measure=> simp only [aK];omega
   ·obtain rfl:N=r:=by omega
    replace X2:=zq (X2.out HA.out);have HEm:=zq HA.out;have GQ:=JT.out N hr;clear X1 HA JT;by_cases h24:24 < cE (bF rs) N
    ·have e1:=zq (X2.out.trans (ip h24));generalize cE (bF rs) N=C at *;go_wp2;go_ret;exact⟨by rw [e1.out] <;> rfl,aQ fV.out HB.out⟩
    ·replace X2:=zq (X2.out.trans (iN h24));have Y1:bK (∀ r,r < N→Fq (bF rs) r=true→R=2):=fun r hr h=> X2.out.trans (ip (eA.2 ⟨r,hr,h⟩));replace X2:=zq (fun h:anyN (Fq (bF rs)) N=false=> X2.out.trans (iN (by rw [h];decide)));generalize cE (bF rs) N=C at *;go_wp2;clear b0;go_loopw [5] (fun i wr=> ∃ r:Nat,i=aC aB r∧r≤N∧bK (anyN (Fq (bF rs)) r=false)∧bK (Below W0.heap.size W0 wr)) (fun i _=> N - (aK i).toNat);case atStart=> exact⟨0,rfl,bM _,rfl,HB.out⟩
     case round=>
      clear HB;obtain⟨r,rfl,hr,HA,HB⟩:=hrel;rename aF=> wr;have b0:=(nO.out.below HB.out nO.out.lt).cell 0;simp only [aJ,aI] at b0;by_cases hrN:r < N
      ·obtain⟨b,o,rfl,c0,Pn⟩:=(HR.out.below (aQ fV.out HB.out)).at (i:=r) (by rw [HL.out];exact hrN) rfl;rw [show(rs.getD r default).ss=bF rs r from rfl] at c0 Pn;have ED:=zq Pn;have hlen:=Hn.out r;have Y1r:=zq (Y1.out r hrN);have E1:bK (Fq (bF rs) r=anyN (Jh (bF rs r)) (bF rs r).length):=rfl;have X3:=zq (fun h:Fq (bF rs) r=false=> gH (p:=Fq (bF rs)) HA.out h);clear Pn;have E2:bK (∀ i,Jh (bF rs r) i= !vV ((bF rs r).getD i default)):=fun i=> rfl;generalize (rs.getD r default).a=ar at *;generalize (rs.getD r default).cap=cr at *;generalize bF rs r=l at *;obtain⟨n,hn⟩:=nm l.length;have Sq:=zq hn;rw [hn] at c0 hlen E1;clear hn;have hrI:(r:Int) < N:=by omega
       go_wp2;go_loopw [6] (fun i wi=> ∃ k:Nat,i=aC aB k∧k≤n∧bK (anyN (Jh l) k=false)∧bK (Below wr.heap.size wr wi)) (fun i _=> n - (aK i).toNat);case atStart=> exact⟨0,rfl,bM _,rfl,aL _ _⟩
       case round=>
        obtain⟨k,rfl,hk,NX,eT⟩:=hrel;rename aF=> wi;have Bl:=zq (aQ HB.out eT.out);have b0:=bR eT.out b0;have c0:=bR eT.out c0;by_cases hkn:k < n
        ·obtain⟨pb,po,rfl,f0,f1,f2,f3,f4,f5,f6⟩:=(ED.out.below eT.out).at (i:=k) (by rw [Sq.out];exact hkn) rfl;have E2k:=zq (E2.out k);have X4:=zq (fun h:Jh l k=true=> Y1r.out (by rw [E1.out];exact eA.2 ⟨k,hkn,h⟩));have X5:=zq (fun h:Jh l k=false=> gH (p:=Jh l) NX.out h);have HRk:=zq (fun W=> HRg.out (l.getD k default) W);generalize l.getD k default=p at *;obtain⟨p0,p1,p2,p3,p4,p5,p6⟩:=p;simp only [] at f0 f1 f2 f3 f4 f5 f6;generalize Jh l k=B at *;generalize vV ⟨p0,p1,p2,p3,p4,p5,p6⟩=D at *;unfold Sd.v Sd.cells at HRk;simp only [] at HRk;go_wp2_with fail
         refine(HRk.out _).mono ?_;rintro e W ⟨rfl,hb⟩;have HBy:=zq (aQ eT.out hb);have HBz:=zq (aQ Bl.out hb);clear hb HRk f0 f1 f2 f3 f4 f5 f6;cases D with
         | false=>
          have e1:=zq (X4.out E2k.out);go_wp2;go_ret;exact⟨by rw [e1.out] <;> rfl,aQ fV.out HBz.out⟩
         | true=>
          have e1:=zq (X5.out E2k.out);go_wp2;go_roundw;case rel=> exact⟨k + 1,by go_num,by omega,e1.out,HBy.out⟩
          case measure=> simp only [aK];omega
        ·obtain rfl:n=k:=by omega
         have e1:=zq (X3.out (by rw [E1.out];exact NX.out));go_wp2;go_roundw;case rel=> exact⟨r + 1,by go_num,by omega,e1.out,Bl.out⟩
         case measure=> simp only [aK];omega
      ·obtain rfl:N=r:=by omega
       have hC:=HI.out HA.out;replace HSh:=zq (HSh.out hC);replace Zv:=zq (Zv.out hpos (fun r hr=> by have:=cP.1 HEm.out r hr;unfold Kv at this;simp at this;exact List.length_pos_iff.2 this) hC);replace HRx:=zq (HRx.out hC);replace X2:=zq (X2.out HA.out);have Y2:bK (∀ r,r < N→D0 (bF rs) r=true→R=14):=fun r hr h=> X2.out.trans (ip (eA.2 ⟨r,hr,h⟩));replace X2:=zq (fun h:anyN (D0 (bF rs)) N=false=> X2.out.trans (iN (by rw [h];decide)));clear HA HEm hC HI Y1 HRg;go_wp2;clear b0;go_loopw [7] (fun i wr=> ∃ r:Nat,i=aC aB r∧r≤N∧bK (anyN (D0 (bF rs)) r=false)∧bK (Below W0.heap.size W0 wr)) (fun i _=> N - (aK i).toNat);case atStart=> exact⟨0,rfl,bM _,rfl,HB.out⟩
       case round=>
        clear HB;obtain⟨r,rfl,hr,HA,HB⟩:=hrel;rename aF=> wr;have b0:=(nO.out.below HB.out nO.out.lt).cell 0;simp only [aJ,aI] at b0;have vL:=zq (aQ fV.out HB.out);by_cases hrN:r < N
        ·obtain⟨b,o,rfl,c0, -⟩:=(HR.out.below vL.out).at (i:=r) (by rw [HL.out];exact hrN) rfl;have HSr:=zq (HSh.out r hrN wr vL.out);have E1:bK (D0 (bF rs) r= !nP (bF rs r)):=rfl;have X4:=zq (Y2.out r hrN);have X5:=zq (fun h:D0 (bF rs) r=false=> gH (p:=D0 (bF rs)) HA.out h);rw [show(rs.getD r default).ss.length=(bF rs r).length from rfl] at c0;generalize D0 (bF rs) r=B at *;generalize nP (bF rs r)=D at *;generalize (rs.getD r default).a=ar at *;generalize (rs.getD r default).cap=cr at *;generalize (bF rs r).length=n at *;have hrI:(r:Int) < N:=by omega
         go_wp2_with fail
         refine HSr.out.mono ?_;rintro e W ⟨rfl,hb⟩;have HBy:=zq (aQ HB.out hb);clear hb HSr;cases D with
         | false=>
          have e1:=zq (X4.out E1.out);go_wp2;go_ret;exact⟨by rw [e1.out] <;> rfl,aQ fV.out HBy.out⟩
         | true=>
          have e1:=zq (X5.out E1.out);go_wp2;go_roundw;case rel=> exact⟨r + 1,by go_num,by omega,e1.out,HBy.out⟩
          case measure=> simp only [aK];omega
        ·obtain rfl:N=r:=by omega
         replace X2:=zq (X2.out HA.out);clear HA HSh Y2;generalize Db (bF rs) N=K at *;generalize zJ (bF rs) N=P at *;generalize Fo (bF rs) N=F at *;go_wp2_with fail
         refine(HCr.out wr vL.out).mono ?_;rintro e W1 ⟨rfl,hb1⟩;have b0:=bR hb1 b0;have eC:=zq (aQ vL.out hb1);have lw:=nO.out.lt;clear hb1;cases K with
         | true=>
          have e1:=zq X2.out;go_wp2;go_ret;exact⟨by rw [e1.out] <;> rfl,eC.out⟩
         | false=>
          go_wp2_with fail
          refine(Zv.out W1 eC.out).mono ?_;rintro e W2 ⟨rfl,hb2⟩;have b0:=bR hb2 b0;have eT:=zq (aQ eC.out hb2);clear hb2;cases P with
          | false=>
           have e1:=zq X2.out;go_wp2;go_ret;exact⟨by rw [e1.out] <;> rfl,eT.out⟩
          | true=>
           go_wp2_with fail
           refine(HRx.out W2 eT.out).mono ?_;rintro e W3 ⟨rfl,hb3⟩;have HB3:=zq (aQ eT.out hb3);clear hb3;cases F with
           | false=>
            have e1:=zq X2.out;go_wp2;go_ret;exact⟨by rw [e1.out] <;> rfl,HB3.out⟩
           | true=>
            have e1:=zq X2.out;go_wp2;go_ret;exact⟨by rw [e1.out] <;> rfl,HB3.out⟩
def zK(f:Nat→List Sd)(N:Nat):Bool:=decide (12<cE f N∧cE f N≤24∨40<cE f N∨40<N)
theorem Pq{f:Nat→List Sd}{N:Nat}(h:zK f N=false):N≤40∧(cE f N≤12∨24<cE f N∧cE f N≤40):=by
 have:=of_decide_eq_false h;omega
theorem Yc{f:Nat→List Sd}:∀{N r:Nat},r<N→(f r).length≤cE f N
 |N+1,r,h=>by
  rw[cE]
  rcases Nat.lt_succ_iff_lt_or_eq.1 h with h|rfl
  ·have:=Yc (f:=f) h;omega
  ·omega
theorem oX {f : Nat → List Sd} {k : Nat} : ∀ {N : Nat}, k ≤ N → cE f k ≤ cE f N
  | 0, h => by obtain rfl : k = 0 := by omega
               exact aH _
  | N + 1, h => by
    rcases fP N k with h2 | h2
    · obtain rfl : k = N + 1 := by omega
      exact aH _
    · have := oX (f := f) h2; rw [cE]; omega
theorem jz (a:Option cO) (N cap:Nat) (rs:List Rg) (w:aF) (hl:rs.length=N) (qJ:cE (bF rs) N≤9223372036854775807) (hN:N≤9223372036854775807) (rr:GN w a rs) :
 bE aE 14 #[cF #[aD a N cap],aC aB 12] w (Rt (aV (zK (bF rs) N)) w):=by
 have HR:=zq rr;have HL:=zq hl;have HM:bK (∀ k,k≤N→cE (bF rs) k≤cE (bF rs) N):=fun k hk=> oX hk;have E:bK (zK (bF rs) N=decide (12 < cE (bF rs) N∧cE (bF rs) N≤24∨40 < cE (bF rs) N∨40 < N)):=rfl;clear hl rr;generalize zK (bF rs) N=R at *;obtain⟨T,hT⟩:=nm (cE (bF rs) N);rw [hT] at qJ HM E;have HT:=zq hT;clear hT;have fV:=zq ((aL _ w).alloc (aH _) (aN #[aD a N cap] 24));have nO:=zq (bT.new w #[aD a N cap] 24);have b0:=nO.out.cell 0;simp only [aJ,aI] at b0;go_enter func14,ntmps14;go_upto_region 1 with (fail)
 generalize w.alloc (aN #[aD a N cap] 24)=W0 at *;go_wp2;go_loopw [5,6] (fun t i wr=> ∃ r:Nat,i=aC aB r∧t=aC aB (cE (bF rs) r:Nat)∧r≤N∧wr=W0) (fun _ i _=> N - (aK i).toNat);case atStart=> exact⟨0,rfl,rfl,bM _,rfl⟩
 case round=>
  obtain⟨r,rfl,rfl,hr,rfl⟩:=hrel;by_cases hrN:r < N
  ·obtain⟨b,o,rfl,c0, -⟩:=(HR.out.below fV.out).at (i:=r) (by rw [HL.out];exact hrN) rfl;rw [show(rs.getD r default).ss.length=(bF rs r).length from rfl] at c0;have E1:bK (cE (bF rs) (r + 1)=cE (bF rs) r + (bF rs r).length):=rfl;have h1:=HM.out (r + 1) hrN;rw [E1.out] at h1;generalize cE (bF rs) r=C at *;generalize (bF rs r).length=n at *;have hrI:(r:Int) < N:=by omega
   go_wp2;go_roundw;case rel=> exact⟨r + 1,by go_num,by rw [E1.out] <;> go_num,by omega,by first | rfl | trivial⟩
   case measure=> simp only [aK];omega
  ·obtain rfl:N=r:=by omega
   rw [HT.out];have hx:bK (12 < T∧T≤24∧R=true∨T≤12∧40 < N∧R=true∨T≤12∧¬ 40 < N∧R=false∨40 < T∧R=true∨24 < T∧T≤40∧40 < N∧R=true∨24 < T∧T≤40∧¬ 40 < N∧R=false):=by
    show _∨_;rw [E.out];simp only [decide_eq_true_eq,decide_eq_false_iff_not];omega
   clear E;rcases hx.out with ⟨g1,g2,rfl⟩ | ⟨g1,g2,rfl⟩ | ⟨g1,g2,rfl⟩ | ⟨g1,rfl⟩ | ⟨g1,g2,g3,rfl⟩ | ⟨g1,g2,g3,rfl⟩;all_goals
    clear hx;go_wp2;go_ret;exact⟨by first | rfl | (congr 2;simp;omega),fV.out⟩
def Su(r n:Nat):List (Nat×Nat):=(List.range n).map fun i=>(r,i)
def BE(f:Nat→List Sd):Nat→List (Nat×Nat)
 |0=>[]
 |n+1=>BE f n++Su n (f n).length
theorem UT(r n:Nat):Su r (n+1)=Su r n++[(r,n)]:=by unfold Su;rw[List.range_succ,List.map_append];rfl
theorem Rm(r n:Nat):(Su r n).length=n:=by simp[Su]
theorem DI(f:Nat→List Sd):∀n,(BE f n).length=cE f n
 |0=>rfl
 |n+1=>by rw[BE,List.length_append,DI f n,Rm];rfl
def prLt(p q:Nat×Nat):Prop:=p.1<q.1∨p.1=q.1∧p.2<q.2
theorem GV{f:Nat→List Sd}{p:Nat×Nat}:∀{n:Nat},p∈BE f n→p.1<n∧p.2<(f p.1).length
 |n+1,h=>by
  rcases List.mem_append.1 h with h|h
  ·have:=GV h;exact⟨by omega,this.2⟩
  ·obtain⟨i,hi,rfl⟩:=List.mem_map.1 h
   exact⟨Od _,List.mem_range.1 hi⟩
theorem MQ(f:Nat→List Sd):∀n,(BE f n).Pairwise prLt
 |0=>Jv
 |n+1=>by
  refine List.pairwise_append.2 ⟨MQ f n,?_,fun a ha b hb=>?_⟩
  ·unfold Su
   refine List.pairwise_map.2 (List.pairwise_lt_range.imp fun h=>.inr ⟨rfl,h⟩)
  ·obtain⟨i,hi,rfl⟩:=List.mem_map.1 hb
   exact .inl (GV ha).1
theorem prA_lt{f:Nat→List Sd}{n k i:Nat}(hk:k<i)(hi:i<cE f n):prLt ((BE f n).getD k default) ((BE f n).getD i default):=by
 have hl:=DI f n;have:=List.pairwise_iff_getElem.1 (MQ f n) k i (by omega) (by omega) hk;rw[aG,aG,bN (by omega),bN (by omega)];exact this
def bxC(f:Nat→List Sd)(p:Nat×Nat):List aP:=[aC aB (BZ ((f p.1).getD p.2 default).x (fF (f p.1) p.2).x),aC aB (BZ ((f p.1).getD p.2 default).y (fF (f p.1) p.2).y),aC aB (B7 ((f p.1).getD p.2 default).x (fF (f p.1) p.2).x),aC aB (B7 ((f p.1).getD p.2 default).y (fF (f p.1) p.2).y)]
def plC(p:Nat×Nat):List aP:=[aC aB p.1,aC aB p.2]
def bxs(f:Nat→List Sd)(l:List (Nat×Nat)):List aP:=l.flatMap (bxC f)
def pls(l:List (Nat×Nat)):List aP:=l.flatMap plC
theorem bxs_app(f:Nat→List Sd)(l m:List (Nat×Nat)):bxs f (l++m)=bxs f l++bxs f m:=by simp[bxs]
theorem pls_app(l m:List (Nat×Nat)):pls (l++m)=pls l++pls m:=by simp[pls]
theorem Rn{g:Nat×Nat→List aP}{z:Nat}(hz:∀p,(g p).length=z):∀(l:List (Nat×Nat))(i j:Nat),i<l.length→j<z→(l.flatMap g)[i*z+j]? =(g (l.getD i default))[j]?
 |[],i,_,h,_=>by simp at h
 |q::qs,0,j,_,hj=>by
  rw[kT,yW,cC,List.getElem?_append_left (by rw[hz];exact hj)];rfl
 |q::qs,i+1,j,h,hj=>by
  rw[kT,List.getElem?_append_right (by rw[hz,PW];omega),hz,show(i+1)*z+j-z=i*z+j by rw[PW];omega]
  exact Rn hz qs i j (by simpa using h) hj
def mtB(f:Nat→List Sd)(p q:Nat×Nat):Bool:=
 decide (BZ ((f p.1).getD p.2 default).x (fF (f p.1) p.2).x≤B7 ((f q.1).getD q.2 default).x (fF (f q.1) q.2).x)&&(decide (BZ ((f q.1).getD q.2 default).x (fF (f q.1) q.2).x≤B7 ((f p.1).getD p.2 default).x (fF (f p.1) p.2).x)&&
  (decide (BZ ((f p.1).getD p.2 default).y (fF (f p.1) p.2).y≤B7 ((f q.1).getD q.2 default).y (fF (f q.1) q.2).y)&&decide (BZ ((f q.1).getD q.2 default).y (fF (f q.1) q.2).y≤B7 ((f p.1).getD p.2 default).y (fF (f p.1) p.2).y)))
def nbI(r s:Nat)(i k n:Int):Bool:=decide (r=s)&&(decide (i-k=1)||decide (i-k=n-1))
theorem crs_law{f:Nat→List Sd}{N i k:Nat}(h:Db f N=false)(hk:k<i)(hi:i<cE f N):
 nbI ((BE f N).getD i default).1 ((BE f N).getD k default).1 ((BE f N).getD i default).2 ((BE f N).getD k default).2 (f ((BE f N).getD i default).1).length=false→mtB f ((BE f N).getD i default) ((BE f N).getD k default)=false:=by
 have hl:=DI f N;have hlt:=prA_lt hk hi;have h1:=GV (bU (xs:=BE f N) (i:=i) (by omega) default);have h2:=GV (bU (xs:=BE f N) (i:=k) (by omega) default);generalize(BE f N).getD i default=p at *;generalize(BE f N).getD k default=q at *;intro hn;cases hm:mtB f p q with
 |false=>rfl
 |true=>
  have h4:Ku f q.1 q.2 p.1 p.2=true:=by
   have ht:Kt (f q.1) q.2 (f p.1) p.2=true:=by
    unfold Kt touI;unfold mtB at hm;simp only[Bool.and_eq_true,decide_eq_true_eq]at hm⊢;exact⟨hm.2.1,hm.1,hm.2.2.2,hm.2.2.1⟩
   unfold Ku;rw[ht,Bool.and_true];unfold jo;unfold nbI at hn;unfold prLt at hlt;rw[Bool.not_eq_true'];simp only[Bool.and_eq_false_iff,kC,decide_eq_false_iff_not]at hn⊢;rcases hn with hn|⟨JV,zu⟩
   ·exact .inl fun e=>hn e.symm
   ·by_cases e:q.1=p.1
    ·right;rw[←e]at h1 zu;exact⟨by omega,by omega,by omega⟩
    ·exact .inl e
  have:=KY h2.1 h2.2 h1.1 (by unfold prLt at hlt;omega) h1.2 h4;rw[h]at this;cases this
end
end Go.Proofs.YtkchhginppjaiaaGreatDoor
