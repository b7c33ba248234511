import Derived.Test.YtckgmoobicmbnaaGreatDoorProg
import Derived.Deep.QuietTactic
import Derived.Shelf.Small.Wraps
import Derived.BigQuiet
import Derived.WalkSmall
import Derived.WalkSpells
import Derived.WalkLawsBesides
import Derived.ChangeAlike
import Derived.StillTailTactics
import Derived.Deep.RegionHeld3
import Derived.Deep.DeepCutAuto
import Derived.Test.YtckgmoobicmbnaaGreatDoorZ0
import Derived.Test.YtckgmoobicmbnaaGreatDoorZ1
import Derived.Test.YtckgmoobicmbnaaGreatDoorZ2
namespace Go.Proofs.YtckgmoobicmbnaaGreatDoor
set_option maxRecDepth 100000
set_option maxHeartbeats 8000000
set_option linter.all false
open Go.Proofs.Tryz
open _root_.Bool renaming true_and->kN,false_and->mH,false_or->oP
open _root_.Go renaming World->aF,Value->aS,Calls->aW,below_drewN->cK,Addr->cT
open Go.Ending renaming returned->aQ
open Go.IntKind renaming i64->aE
open Go.IntWalk renaming i64_in->aX
open Go.Obj renaming cells->aJ
open Go.Proofs.Tryz renaming prog->aC,ntmps234->Ro,func234->Va
open Go.RowKit renaming intOf->aK,Hid->bH
open Go.RowKit.Below renaming refl->aH
open Go.Value renaming slice->aB,int->aD,bool->aN,tuple->cC
open Go.World renaming block_lt_of_cell?->bG
open _root_.Int renaming tmod_eq_emod_of_nonneg->jI
open _root_.List renaming getElem?_cons_zero->aI,getElem?_toArray->aL,getD_eq_getElem?_getD->aO,getElem?_eq_none->mI
open _root_.Nat renaming le_refl->aG,zero_le->bN,lt_or_ge->fK,mod_lt->fU,add_zero->oE
open _root_.Trans renaming trans->cB
section
open Go Go.RowKit Go.Lib
structure Sd where
 x:Int
 y:Int
 rise:Int
 run:Int
 gable:Bool
 plate:Int
 over:Int
abbrev Sd.cells(s:Sd):Array aS:= #[aD aE s.x,aD aE s.y,aD aE s.rise,aD aE s.run,aN s.gable,aD aE s.plate,aD aE s.over]
abbrev Sd.v(s:Sd):aS:=.agg s.cells
instance:Inhabited Sd:=⟨⟨0,0,0,0,false,0,0⟩⟩
structure Rg where
 a:Option cT
 cap:Nat
 ss:List Sd
def Rg.v(l:Rg):aS:=aB l.a l.ss.length l.cap
instance:Inhabited Rg:=⟨⟨none,0,[]⟩⟩
def lE(W:aF)(a:Option cT)(ss:List Sd):Prop:=
 ∀i,i<ss.length→∃b off,a=some ⟨b,off,none⟩∧∀j,j<7→W.cell? ⟨b,off+i*7+j,none⟩=some ((ss.getD i default).cells.getD j undef)
def GL(W:aF)(a:Option cT)(rs:List Rg):Prop:=
 ∀i,i<rs.length→∃b off,a=some ⟨b,off,none⟩∧W.cell? ⟨b,off+i,none⟩=some (rs.getD i default).v∧lE W (rs.getD i default).a (rs.getD i default).ss
theorem lE.below{w w':aF}{a:Option cT}{ss:List Sd}(h:lE w a ss)(hb:Below w.heap.size w w'):lE w' a ss:=by
 intro i hi;obtain⟨b,off,rfl,hc⟩:=h i hi;exact⟨b,off,rfl,fun j hj=>(hb.cell (p:=⟨b,off+i*7+j,none⟩) (bG w _ (hc j hj))).trans (hc j hj)⟩
theorem GL.below{w w':aF}{a:Option cT}{rs:List Rg}(h:GL w a rs)(hb:Below w.heap.size w w'):GL w' a rs:=by
 intro i hi;obtain⟨b,off,rfl,hc,hp⟩:=h i hi;exact⟨b,off,rfl,(hb.cell (p:=⟨b,off+i,none⟩) (bG w _ hc)).trans hc,hp.below hb⟩
theorem lE.at{w:aF}{a:Option cT}{ss:List Sd}(h:lE w a ss){i:Nat}(hi:i<ss.length){s:Sd}(hs:ss.getD i default=s):∃b off,a=some ⟨b,off,none⟩∧
 w.cell? ⟨b,off+i*7,none⟩=some (aD aE s.x)∧w.cell? ⟨b,off+i*7+1,none⟩=some (aD aE s.y)∧w.cell? ⟨b,off+i*7+2,none⟩=some (aD aE s.rise)∧
 w.cell? ⟨b,off+i*7+3,none⟩=some (aD aE s.run)∧w.cell? ⟨b,off+i*7+4,none⟩=some (aN s.gable)∧w.cell? ⟨b,off+i*7+5,none⟩=some (aD aE s.plate)∧w.cell? ⟨b,off+i*7+6,none⟩=some (aD aE s.over):=by
 obtain⟨b,off,rfl,hc⟩:=h i hi;subst hs;exact⟨b,off,rfl,hc 0 (by decide),hc 1 (by decide),hc 2 (by decide),hc 3 (by decide),hc 4 (by decide),hc 5 (by decide),hc 6 (by decide)⟩
theorem GL.at{w:aF}{a:Option cT}{rs:List Rg}(h:GL w a rs){i:Nat}(hi:i<rs.length){l:Rg}(hl:rs.getD i default=l):∃b off,a=some ⟨b,off,none⟩∧
 w.cell? ⟨b,off+i,none⟩=some (aB l.a l.ss.length l.cap)∧lE w l.a l.ss:=by
 obtain⟨b,off,rfl,hc,hp⟩:=h i hi;subst hl;exact⟨b,off,rfl,hc,hp⟩
def Dr(w W:aF):Prop:=∃n,W=w.drewN n
theorem Dr.refl(w:aF):Dr w w:=⟨0,rfl⟩
theorem Dr.drewN(w:aF)(n:Nat):Dr w (w.drewN n):=⟨n,rfl⟩
theorem Dr.trans{a b c:aF}(h:Dr a b)(k:Dr b c):Dr a c:=by
 obtain⟨n,rfl⟩:=h;obtain⟨m,rfl⟩:=k;exact⟨n+m,by rw[World.drewN_drewN]⟩
theorem Dr.below{a b:aF}(h:Dr a b):Below a.heap.size a b:=by
 obtain⟨n,rfl⟩:=h;exact cK (aH _ _) n
theorem qb{P:Program}{f:FuncId}{ar:Array aS}{W:aF}{v:aS}(H:aW P f ar W fun e w'=>e=aQ v∧Dr W w'):aW P f ar W (Rt (v) W):=
 H.mono fun _ _⟨h,k⟩=>⟨h,k.below⟩
def jG(l:List Sd)(i:Nat):Sd:=l.getD ((i+1)%l.length) default
def pre(n i:Nat):Nat:=(i+n-1)%n
def FE(l:List Sd):Prop:=∀i,0≤(l.getD i default).x∧(l.getD i default).x≤65536∧0≤(l.getD i default).y∧(l.getD i default).y≤65536
def uZ(n:Int):Int:=if n<0 then -1 else if 0<n then 1 else 0
def FG(l:List Sd)(i:Nat):Int:=uZ ((jG l i).x-(l.getD i default).x)
def dY(l:List Sd)(i:Nat):Int:=uZ ((jG l i).y-(l.getD i default).y)
def Vn(l:List Sd)(i:Nat):Int:=FG l (pre l.length i)*dY l i-dY l (pre l.length i)*FG l i
theorem pO(n:Int): -1≤uZ n∧uZ n≤1:=by
 unfold uZ;split
 ·omega
 ·split <;>omega
theorem zV{n i:Nat}(h:i<n):pre n i<n:=fU _ (by omega)
theorem Kw(k n:Nat):((k:Int)+1).tmod (n:Int)=(((k+1)%n:Nat):Int):=by
 rw[jI (by omega)];push_cast;rfl
theorem Mh{k n:Nat}(h:k<n):((k:Int)+(n:Int)-1).tmod (n:Int)=((pre n k:Nat):Int):=by
 rw[jI (by omega)];unfold pre;rw[show(k:Int)+(n:Int)-1=((k+n-1:Nat):Int) by omega];rfl
theorem wa(n:Int)(w:aF):aW aC 234 #[aD aE n] w fun e w'=>e=aQ (aD aE (uZ n))∧w=w':=by
 by_cases h:n<0
 ·have E:bH (uZ n= -1):=ip h;go_enter Va,Ro;go_wp2;go_ret;exact⟨by rw[E.out]<;>rfl,rfl⟩
 ·by_cases h2:0<n
  ·have E:bH (uZ n=1):=by show _=_;rw[uZ,iN h,ip h2]
   go_enter Va,Ro;go_wp2;go_ret;exact⟨by rw[E.out]<;>rfl,rfl⟩
  ·have E:bH (uZ n=0):=by show _=_;rw[uZ,iN h,iN h2]
   go_enter Va,Ro;go_wp2;go_ret;exact⟨by rw[E.out]<;>rfl,rfl⟩
theorem Mi(a:Option cT)(n cap i:Nat)(l:List Sd)(w:aF)(hl:l.length=n)(hn:n≤1000000)(hi:i<n)(r:lE w a l):
 aW aC 233 #[aB a n cap,aD aE (i:Int)] w fun e w'=>e=aQ (cC #[aD aE (jG l i).x,aD aE (jG l i).y])∧Dr w w':=by
 have hm:(i+1)%n<n:=fU _ (by omega);obtain⟨b,o,rfl,c0,c1,-⟩:=r.at (i:=(i+1)%n) (by omega) (s:=jG l i) (by unfold jG;rw[hl]);have ht:=Kw i n;generalize jG l i=q at *;generalize(i+1)%n=m at *;clear r hl;go_enter func233,ntmps233;go_wp2;go_quiet (fail)
 go_wp2;go_ret2;exact⟨rfl,.drewN _ _⟩
theorem Qq(a:Option cT)(n cap i:Nat)(l:List Sd)(w:aF)(hl:l.length=n)(hn:n≤1000000)(hi:i<n)(r:lE w a l):
 aW aC 233 #[aB a n cap,aD aE (i:Int)] w (Rt (cC #[aD aE (jG l i).x,aD aE (jG l i).y]) w):=qb (Mi a n cap i l w hl hn hi r)
theorem zW(a:Option cT)(n cap i:Nat)(l:List Sd)(w:aF)(hl:l.length=n)(hn:n≤1000000)(hi:i<n)(hC:FE l)(r:lE w a l):
 aW aC 156 #[aB a n cap,aD aE (i:Int)] w (Rt (cC #[aD aE (FG l i),aD aE (dY l i)]) w):=by
 have HE:=zq (Qq a n cap i l w hl hn hi r);have HS:=zq wa;obtain⟨b,o,rfl,c0,c1,-⟩:=r.at (i:=i) (by omega) rfl;have h1:=hC i;have h2:=hC ((i+1)%l.length);rw[show l.getD ((i+1)%l.length) default=jG l i from rfl]at h2;have EX:bH (uZ ((jG l i).x-(l.getD i default).x)=FG l i):=rfl;have EY:bH (uZ ((jG l i).y-(l.getD i default).y)=dY l i):=rfl;generalize jG l i=q at *;generalize l.getD i default=s at *;generalize FG l i=DX at *;generalize dY l i=DY at *;obtain⟨x1,x2,x3,x4⟩:=h1;obtain⟨y1,y2,y3,y4⟩:=h2;clear r hl hC;go_enter func156,ntmps156;go_wp2_with fail
 refine HE.out.mono ?_;rintro e W⟨rfl,hb⟩;have c0:=cF hb c0;have c1:=cF hb c1;have HB:=zq hb;clear hb HE;go_wp2;have e1:IntKind.i64.wrap (q.x-s.x)=q.x-s.x:=aX _ (by omega);have e2:IntKind.i64.wrap (q.y-s.y)=q.y-s.y:=aX _ (by omega);go_quiet ((go_at_call 234;exact Calls.quiet_of_same ((HS.out _ _).mono fun e w'⟨h1,h2⟩=>⟨h1,h2.symm⟩)))
 clear e1 e2;go_wp2;go_ret2;exact⟨by rw[EX.out,EY.out]<;>rfl,cK HB.out _⟩
theorem TZ(a:Option cT)(n cap i:Nat)(l:List Sd)(w:aF)(hl:l.length=n)(hn:n≤1000000)(hi:i<n)(hC:FE l)(r:lE w a l):
 aW aC 157 #[aB a n cap,aD aE (i:Int)] w (Rt (aD aE (Vn l i)) w):=by
 have H1:=zq (zW a n cap (pre n i) l w hl hn (zV hi) hC r);have H2:=zq (fun W(hW:Below w.heap.size w W)=>zW a n cap i l W hl hn hi hC (r.below hW));have E:bH (Vn l i=FG l (pre n i)*dY l i-dY l (pre n i)*FG l i):=by show _=_;rw[←hl];rfl
 have ht:=Mh hi;have b1:∀u v:Int,-1≤u∧u≤1→-1≤v∧v≤1→-1≤u*v∧u*v≤1:=fun u v h k=>by
  obtain rfl|rfl|rfl:u= -1∨u=0∨u=1:=by omega
  all_goals omega
 have g1:=b1 (FG l (pre n i)) (dY l i) (pO _) (pO _);have g2:=b1 (dY l (pre n i)) (FG l i) (pO _) (pO _);generalize FG l (pre n i)=A at *;generalize dY l (pre n i)=B at *;generalize FG l i=C at *;generalize dY l i=D at *;generalize Vn l i=T at *;generalize pre n i=m at *;clear r hl hC b1;go_enter func157,ntmps157;go_wp2_with fail
 refine H1.out.mono ?_;rintro e W⟨rfl,hb⟩;go_wp2_with fail
 refine(H2.out _ hb).mono ?_;rintro e W2⟨rfl,hb2⟩;have HB:=zq (aR (aH _ w|>.trans hb) hb2 hb.size);clear hb hb2 H1 H2;go_wp2;go_ret;exact⟨by rw[E.out]<;>rfl,HB.out⟩
def DQ(a b:Int):Int:=if b<a then b else a
def DR(a b:Int):Int:=if a<b then b else a
def touI(a p b q:Sd):Bool:=decide (DQ a.x p.x≤DR b.x q.x)&&(decide (DQ b.x q.x≤DR a.x p.x)&&(decide (DQ a.y p.y≤DR b.y q.y)&&decide (DQ b.y q.y≤DR a.y p.y)))
def T5(l:List Sd)(i:Nat)(m:List Sd)(k:Nat):Bool:=touI (l.getD i default) (jG l i) (m.getD k default) (jG m k)
theorem imin_if{x y A:Int}(h:(if y<x then y else x)=A):min x y=A:=by rw[←h];simp only[Int.min_def];split <;>split <;>omega
theorem imax_if{x y A:Int}(h:(if x<y then y else x)=A):max x y=A:=by rw[←h];simp only[Int.max_def];split <;>split <;>omega
theorem dn(a b:Option cT)(n ca m cb i k:Nat)(l r:List Sd)(w:aF)(hl:l.length=n)(hr:r.length=m)(hn:n≤1000000)(hm:m≤1000000)(hi:i<n)(hk:k<m)(rl:lE w a l)(rr:lE w b r):
 aW aC 158 #[aB a n ca,aD aE (i:Int),aB b m cb,aD aE (k:Int)] w (Rt (aN (T5 l i r k)) w):=by
 have H1:=zq (Qq a n ca i l w hl hn hi rl);have H2:=zq (fun W(hW:Below w.heap.size w W)=>Qq b m cb k r W hr hm hk (rr.below hW));obtain⟨b1,o1,rfl,c0,c1,-⟩:=rl.at (i:=i) (by omega) rfl;obtain⟨b2,o2,rfl,d0,d1,-⟩:=rr.at (i:=k) (by omega) rfl;have E:bH (T5 l i r k=touI (l.getD i default) (jG l i) (r.getD k default) (jG r k)):=rfl;generalize T5 l i r k=T at *;generalize l.getD i default=s at *;generalize jG l i=p at *;generalize r.getD k default=t at *;generalize jG r k=q at *;obtain⟨A1,we⟩:∃x,(if p.x<s.x then p.x else s.x)=x:=⟨_,rfl⟩;obtain⟨A2,hA2⟩:∃x,(if s.x<p.x then p.x else s.x)=x:=⟨_,rfl⟩;obtain⟨A3,hA3⟩:∃x,(if p.y<s.y then p.y else s.y)=x:=⟨_,rfl⟩;obtain⟨A4,hA4⟩:∃x,(if s.y<p.y then p.y else s.y)=x:=⟨_,rfl⟩;obtain⟨B1,mM⟩:∃x,(if q.x<t.x then q.x else t.x)=x:=⟨_,rfl⟩;obtain⟨B2,gJ⟩:∃x,(if t.x<q.x then q.x else t.x)=x:=⟨_,rfl⟩;obtain⟨B3,kY⟩:∃x,(if q.y<t.y then q.y else t.y)=x:=⟨_,rfl⟩;obtain⟨B4,oI⟩:∃x,(if t.y<q.y then q.y else t.y)=x:=⟨_,rfl⟩;replace E:bH (T=(decide (A1≤B2)&&(decide (B1≤A2)&&(decide (A3≤B4)&&decide (B3≤A4))))):=by
  rw[←we,←hA2,←hA3,←hA4,←mM,←gJ,←kY,←oI];exact E
 have mA1:=imin_if we;have mA2:=imax_if hA2;have mA3:=imin_if hA3;have mA4:=imax_if hA4;have mB1:=imin_if mM;have mB2:=imax_if gJ;have mB3:=imin_if kY;have mB4:=imax_if oI;clear rl rr hl hr;go_enter func158,ntmps158;go_wp2_with fail
 refine H1.out.mono ?_;rintro e W⟨rfl,hb⟩;go_wp2_with fail
 refine(H2.out _ hb).mono ?_;rintro e W2⟨rfl,hb2⟩;have HB:=zq (aR (aH _ w|>.trans hb) hb2 hb.size);have c0:=cF HB.out c0;have c1:=cF HB.out c1;have d0:=cF HB.out d0;have d1:=cF HB.out d1;clear hb hb2 H1 H2;have hx:bH ((A1≤B2)=False∧T=false∨A1≤B2∧(B1≤A2)=False∧T=false∨A1≤B2∧B1≤A2∧(A3≤B4)=False∧T=false∨A1≤B2∧B1≤A2∧A3≤B4∧T=decide (B3≤A4)):=by
  rw[E.out];show _∨_;by_cases h1:A1≤B2<;>by_cases h2:B1≤A2<;>by_cases h3:A3≤B4<;>simp only[h1,h2,h3,decide_true,decide_false,kN,mH,true_and,false_and,and_true,and_false,or_true,or_false,false_or,true_or,eq_self_iff_true,not_true,not_false_eq_true]
 clear E;rcases hx.out with⟨h1,rfl⟩|⟨h1,h2,rfl⟩|⟨h1,h2,h3,rfl⟩|⟨h1,h2,h3,rfl⟩;all_goals
  clear hx;go_wp2;simp only[List.append_eq,List.cons_append,List.nil_append];go_quiet (fail)
  go_wp2;go_ret;exact⟨rfl,cK HB.out _⟩
def outI(n f t:Int):Bool:=decide (n<f)||decide (t<n)
theorem T4(n f t:Int)(w:aF):aW aC 155 #[aD aE n,aD aE f,aD aE t] w fun e w'=>e=aQ (aN (outI n f t))∧w=w':=by
 have E:bH (outI n f t=(decide (n<f)||decide (t<n))):=rfl;cases h:decide (n<f)
 ·rw[h,oP]at E;go_enter func155,ntmps155;go_wp2;go_ret;exact⟨by rw[E.out]<;>rfl,rfl⟩
 ·rw[h,Bool.true_or]at E;go_enter func155,ntmps155;go_wp2;go_ret;exact⟨by rw[E.out]<;>rfl,rfl⟩
def yJ(s:Sd):Bool:= !(outI s.x 0 65536||(outI s.y 0 65536||(outI s.plate 0 65536||outI s.over 0 65536)))&&(if s.gable=true then(s.rise==0)&&(s.run==0)else !outI s.rise 1 48&& !outI s.run 1 48)
theorem BY{W:aF}{b:Nat}{u0 u1 u2 u3 u4 u5 u6:aS}{T:TypeId}(h:bT W b #[u0,u1,u2,u3,u4,u5,u6] T):W.cell? ⟨b,0,none⟩=some u0∧W.cell? ⟨b,1,none⟩=some u1∧W.cell? ⟨b,2,none⟩=some u2∧W.cell? ⟨b,3,none⟩=some u3∧W.cell? ⟨b,4,none⟩=some u4∧W.cell? ⟨b,5,none⟩=some u5∧W.cell? ⟨b,6,none⟩=some u6:=⟨h.cell 0,h.cell 1,h.cell 2,h.cell 3,h.cell 4,h.cell 5,h.cell 6⟩
theorem WY(s:Sd)(w:aF):aW aC 79 #[s.v] w (Rt (aN (yJ s)) w):=by
 obtain⟨x,y,rise,run,gable,plate,over⟩:=s;have E:bH (yJ ⟨x,y,rise,run,gable,plate,over⟩=(!(outI x 0 65536||(outI y 0 65536||(outI plate 0 65536||outI over 0 65536)))&&(if gable=true then(rise==0)&&(run==0)else !outI rise 1 48&& !outI run 1 48))):=rfl;have HO:=zq T4;generalize yJ ⟨x,y,rise,run,gable,plate,over⟩=R at *;have H1:=zq (fun W=>HO.out x 0 65536 W);have H2:=zq (fun W=>HO.out y 0 65536 W);have H3:=zq (fun W=>HO.out plate 0 65536 W);have H4:=zq (fun W=>HO.out over 0 65536 W);have H5:=zq (fun W=>HO.out rise 1 48 W);have H6:=zq (fun W=>HO.out run 1 48 W);generalize outI x 0 65536=b1 at *;generalize outI y 0 65536=b2 at *;generalize outI plate 0 65536=b3 at *;generalize outI over 0 65536=b4 at *;generalize outI rise 1 48=b5 at *;generalize outI run 1 48=b6 at *;clear HO;have HB:=zq ((aH _ w).alloc (aG _) (aJ #[aD aE x,aD aE y,aD aE rise,aD aE run,aN gable,aD aE plate,aD aE over] 74));have hx:bH ((b1=true∨b1=false∧b2=true∨b1=false∧b2=false∧b3=true∨b1=false∧b2=false∧b3=false∧b4=true)∧R=false∨b1=false∧b2=false∧b3=false∧b4=false∧(gable=true∧((rise==0)=false∧R=false∨rise=0∧R=(run==0))∨gable=false∧(b5=true∧R=false∨b5=false∧R= !b6))):=by
  show _∨_;rw[E.out];cases b1<;>cases b2<;>cases b3<;>cases b4<;>cases gable<;>cases b5<;>by_cases h:rise=0<;>simp[h]
 clear E;unfold Sd.v Sd.cells;simp only[];go_enter func79,ntmps79;rcases hx.out with⟨(rfl|⟨rfl,rfl⟩|⟨rfl,rfl,rfl⟩|⟨rfl,rfl,rfl,rfl⟩),rfl⟩|⟨rfl,rfl,rfl,rfl,(⟨rfl,(⟨h,rfl⟩|⟨rfl,rfl⟩)⟩|⟨rfl,(⟨rfl,rfl⟩|⟨rfl,rfl⟩)⟩)⟩;all_goals
  clear hx;go_wp2_with (first
   |((with_reducible refine(H1.out _).mono ?_);rintro e w1 ⟨rfl,rfl⟩)
   |((with_reducible refine(H2.out _).mono ?_);rintro e w1 ⟨rfl,rfl⟩)
   |((with_reducible refine(H3.out _).mono ?_);rintro e w1 ⟨rfl,rfl⟩)
   |((with_reducible refine(H4.out _).mono ?_);rintro e w1 ⟨rfl,rfl⟩)
   |((with_reducible refine(H5.out _).mono ?_);rintro e w1 ⟨rfl,rfl⟩)
   |((with_reducible refine(H6.out _).mono ?_);rintro e w1 ⟨rfl,rfl⟩)
   |fail)
  go_ret;exact⟨rfl,HB.out⟩
theorem Qr{a b:Int}(h1:0≤a)(h2:a≤65536)(h3:0≤b)(h4:b≤65536):0≤a*b∧a*b≤4294967296:=
 ⟨Int.mul_nonneg h1 h3,by have:=Int.mul_le_mul h2 h4 h3 (by decide:(0:Int)≤65536);omega⟩
def sA(l:List Sd):Nat→Int
 |0=>0
 |k+1=>sA l k+(l.getD k default).x*(jG l k).y-(jG l k).x*(l.getD k default).y
theorem Kx{l:List Sd}(hC:FE l):∀k:Nat,-(4294967296*(k:Int))≤sA l k∧sA l k≤4294967296*(k:Int)
 |0=>⟨Int.le_refl _,Int.le_refl _⟩
 |k+1=>by
  have:=Kx hC k
  obtain⟨a1,a2,a3,a4⟩:=hC k
  obtain⟨b1,b2,b3,b4⟩:=hC ((k+1)%l.length)
  have h1:=Qr a1 a2 b3 b4
  have h2:=Qr b1 b2 a3 a4
  have e:sA l (k+1)=sA l k+(l.getD k default).x*(l.getD ((k+1)%l.length) default).y-(l.getD ((k+1)%l.length) default).x*(l.getD k default).y:=rfl
  rw[e]
  generalize(l.getD k default).x*(l.getD ((k+1)%l.length) default).y=p at *
  generalize(l.getD ((k+1)%l.length) default).x*(l.getD k default).y=q at *
  generalize sA l k=t at *
  push_cast
  omega
theorem dm (a:Option cT) (n cap:Nat) (l:List Sd) (w:aF) (hl:l.length=n) (hn:n≤1000) (hC:FE l) (r:lE w a l) :
 aW aC 159 #[aB a n cap] w fun e w' => e=aQ (aD aE (sA l n))∧Dr w w' :=by
 have HE:=zq (fun k (hk:k < n) W (hW:Dr w W)=> Mi a n cap k l W hl (by omega) hk (r.below hW.below));have HC:=zq hC;have HR:=zq r;have HL:=zq hl;clear hC r hl;go_enter func159,ntmps159;go_wp2;go_loopw [3,4] (fun t i wr=> ∃ k:Nat,i=aD aE k∧t=aD aE (sA l k)∧k≤n∧bH (Dr w wr)) (fun _ i _=> n - (aK i).toNat);case atStart=> exact⟨0,rfl,rfl,bN _,Dr.refl w⟩
 case round=>
  obtain⟨k,rfl,rfl,hk,HB⟩:=hrel;by_cases hlt:k < n
  ·have HEk:=zq (HE.out k hlt _ HB.out);obtain⟨b,o,rfl, -⟩:=HR.out.at (i:=k) (by rw [HL.out];exact hlt) rfl;obtain⟨a1,a2,a3,a4⟩:=HC.out k;obtain⟨b1,b2,b3,b4⟩:=HC.out ((k + 1) % l.length);rw [show l.getD ((k + 1) % l.length) default=jG l k from rfl] at b1 b2 b3 b4;have ET:bH (sA l (k + 1)=sA l k + (l.getD k default).x * (jG l k).y - (jG l k).x * (l.getD k default).y):=rfl;have hb:=Kx HC.out k;have m1:=Qr a1 a2 b3 b4;have m2:=Qr b1 b2 a3 a4;obtain⟨s,hs⟩:∃ s,l.getD k default=s:=⟨_,rfl⟩;rw [hs] at a1 a2 a3 a4 m1 m2 ET;have Hs:=zq hs;clear hs a1 a2 a3 a4 b1 b2 b3 b4;generalize sA l k=t at *;generalize jG l k=q at *;go_wp2_with fail
   refine HEk.out.mono ?_;rintro e W ⟨rfl,hb1⟩;have eW:=zq (HB.out.trans hb1);obtain⟨b',o',e1,c0,c1, -⟩:=(HR.out.below eW.out.below).at (i:=k) (by rw [HL.out];exact hlt) Hs.out;injection e1 with e1;injection e1 with e1 e2;subst e1 e2;clear hb1 HEk HB;go_wp2;have e1:IntKind.i64.wrap (s.x * q.y)=s.x * q.y:=aX _ (by omega);have e2:IntKind.i64.wrap (t + s.x * q.y)=t + s.x * q.y:=aX _ (by omega);have e3:IntKind.i64.wrap (q.x * s.y)=q.x * s.y:=aX _ (by omega);have e4:IntKind.i64.wrap (t + s.x * q.y - q.x * s.y)=t + s.x * q.y - q.x * s.y:=aX _ (by omega);go_quiet (fail)
   clear e1 e2 e3 e4;go_wp2;go_roundw;case rel=> exact⟨k + 1,by go_num,by rw [ET.out],by omega,eW.out.trans (.drewN _ _)⟩
   case measure=> simp only [aK];omega
  ·obtain rfl:n=k:=by omega
   go_wp2;go_ret;exact⟨rfl,HB.out⟩
def xS(l:List Sd)(i:Nat):Bool:= !decide (FG l i*FG l i+dY l i*dY l i=1)||decide (Vn l i=0)
def uO(l:List Sd):Bool:= !anyN (xS l) l.length&&decide (4≤l.length)
theorem WZ(a:Option cT)(n cap:Nat)(l:List Sd)(w:aF)(hl:l.length=n)(hn:n≤1000)(hC:FE l)(r:lE w a l):
 aW aC 80 #[aB a n cap] w (Rt (aN (uO l)) w):=by
 have HD:=zq (fun k(hk:k<n)W(hW:Below w.heap.size w W)=>zW a n cap k l W hl (by omega) hk hC (r.below hW));have HT:=zq (fun k(hk:k<n)W(hW:Below w.heap.size w W)=>TZ a n cap k l W hl (by omega) hk hC (r.below hW));have R1:bH (∀k,k<n→xS l k=true→uO l=false):=fun k hk h=>by unfold uO;rw[hl,eJ.2 ⟨k,hk,h⟩];rfl
 have R2:bH (anyN (xS l) n=false→uO l=decide (4≤n)):=fun h=>by unfold uO;rw[hl,h];rfl
 clear hC r hl;generalize uO l=R at *;go_enter func80,ntmps80;go_wp2;go_loopw[3] (fun i wr=>∃k:Nat,i=aD aE k∧k≤n∧bH (anyN (xS l) k=false)∧bH (Below w.heap.size w wr)) (fun i _=>n-(aK i).toNat);case atStart=>exact⟨0,rfl,bN _,rfl,aH _ w⟩
 case round=>
  obtain⟨k,rfl,hk,HA,HB⟩:=hrel;by_cases hlt:k<n
  ·have HDk:=zq (HD.out k hlt _ HB.out);have HTk:=zq (HT.out k hlt);have S1:=zq (R1.out k hlt);have S2:=zq (fun h:xS l k=false=>gO HA.out h);have hx: -1≤FG l k∧FG l k≤1:=pO _;have hy: -1≤dY l k∧dY l k≤1:=pO _;have E:bH (xS l k=(!decide (FG l k*FG l k+dY l k*dY l k=1)||decide (Vn l k=0))):=rfl;have px:0≤FG l k*FG l k∧FG l k*FG l k≤1:=by
    obtain h|h|h:FG l k= -1∨FG l k=0∨FG l k=1:=by omega
    all_goals rw[h];decide
   have py:0≤dY l k*dY l k∧dY l k*dY l k≤1:=by
    obtain h|h|h:dY l k= -1∨dY l k=0∨dY l k=1:=by omega
    all_goals rw[h];decide
   generalize xS l k=B at *;generalize FG l k=X at *;generalize dY l k=Y at *;generalize Vn l k=T at *;go_wp2_with fail
   refine HDk.out.mono ?_;rintro e W⟨rfl,hb1⟩;have eW:=zq (aU HB.out hb1);clear hb1 HDk HB;by_cases h1:X*X+Y*Y=1
   ·have h1':(X*X+Y*Y !=1)=false:=by simp[h1]
    have h1'':((X*X+Y*Y)==1)=true:=by simp[h1]
    rw[decide_eq_true h1,Bool.not_true,oP]at E;clear h1;go_wp2_with fail
    refine(HTk.out _ eW.out).mono ?_;rintro e W2⟨rfl,hb2⟩;have fR:=zq (aU eW.out hb2);clear hb2;by_cases h2:T=0
    ·subst h2;have e1:=zq (S1.out (by rw[E.out];rfl));go_wp2;go_ret;exact⟨by rw[e1.out]<;>rfl,fR.out⟩
    ·have e1:=zq (S2.out (by rw[E.out,decide_eq_false h2]));have h2':(T==0)=false:=by simp[h2]
     go_wp2;go_roundw;case rel=>exact⟨k+1,by go_num,by omega,e1.out,fR.out⟩
     case measure=>simp only[aK];omega
   ·have h1':(X*X+Y*Y !=1)=true:=by simp[h1]
    have e1:=zq (S1.out (by rw[E.out,decide_eq_false h1];rfl));clear h1;go_wp2;go_ret;exact⟨by rw[e1.out]<;>rfl,eW.out⟩
  ·obtain rfl:n=k:=by omega
   have e1:=zq (R2.out HA.out);go_wp2;go_ret;exact⟨by rw[e1.out]<;>first |rfl|(congr 2;simp;omega),HB.out⟩
def AJ(l:List Sd)(x y:Int)(i:Nat):Bool:=((l.getD i default).x==(jG l i).x)&&(decide (x<(jG l i).x)&&(decide (DQ (l.getD i default).y (jG l i).y≤y)&&decide (y<DR (l.getD i default).y (jG l i).y)))
def Cb(p:Nat→Bool):Nat→Bool
 |0=>false
 |n+1=>if p n=true then !Cb p n else Cb p n
def NE(l:List Sd)(x y:Int):Bool:=Cb (AJ l x y) l.length
theorem Xg (a:Option cT) (n cap:Nat) (l:List Sd) (x y:Int) (w:aF) (hl:l.length=n) (hn:n≤1000) (r:lE w a l) :
 aW aC 160 #[aB a n cap,aD aE x,aD aE y] w fun e w' => e=aQ (aN (NE l x y))∧Dr w w' :=by
 have HE:=zq (fun k (hk:k < n) W (hW:Dr w W)=> Mi a n cap k l W hl (by omega) hk (r.below hW.below));have HR:=zq r;have HL:=zq hl;have HN:bH (NE l x y=Cb (AJ l x y) n):=by show _=_;rw [← hl];rfl
 clear r hl;go_enter func160,ntmps160;go_wp2;go_loopw [7,8] (fun t i wr=> ∃ k:Nat,i=aD aE k∧t=aN (Cb (AJ l x y) k)∧k≤n∧bH (Dr w wr)) (fun _ i _=> n - (aK i).toNat);case atStart=> exact⟨0,rfl,rfl,bN _,Dr.refl w⟩
 case round=>
  obtain⟨k,rfl,rfl,hk,HB⟩:=hrel;by_cases hlt:k < n
  ·have HEk:=zq (HE.out k hlt _ HB.out);obtain⟨b,o,rfl, -⟩:=HR.out.at (i:=k) (by rw [HL.out];exact hlt) rfl;have E1:bH (Cb (AJ l x y) (k + 1)=if AJ l x y k=true then !Cb (AJ l x y) k else Cb (AJ l x y) k):=rfl;have E2:bH (AJ l x y k=(((l.getD k default).x==(jG l k).x) && (decide (x < (jG l k).x) && (decide (DQ (l.getD k default).y (jG l k).y≤y) && decide (y < DR (l.getD k default).y (jG l k).y))))):=rfl;obtain⟨s,hs⟩:∃ s,l.getD k default=s:=⟨_,rfl⟩;rw [hs] at E2;have Hs:=zq hs;clear hs;obtain⟨B2,gJ⟩:=nm (Cb (AJ l x y) (k + 1));have fR:=zq gJ;rw [gJ] at E1;clear gJ;generalize Cb (AJ l x y) k=B1 at *;generalize AJ l x y k=C at *;generalize jG l k=q at *;go_wp2_with fail
   refine HEk.out.mono ?_;rintro e W ⟨rfl,hb1⟩;have eW:=zq (HB.out.trans hb1);obtain⟨b',o',e1,c0,c1, -⟩:=(HR.out.below eW.out.below).at (i:=k) (by rw [HL.out];exact hlt) Hs.out;injection e1 with e1;injection e1 with e1 e2;subst e1 e2;clear hb1 HEk HB;unfold DQ DR at E2;obtain⟨M1,hM1⟩:∃ x,(if q.y < s.y then q.y else s.y)=x:=⟨_,rfl⟩;obtain⟨M2,hM2⟩:∃ x,(if s.y < q.y then q.y else s.y)=x:=⟨_,rfl⟩;rw [hM1,hM2] at E2;have mM1:=imin_if hM1;have mM2:=imax_if hM2;have hx:bH ((s.x==q.x)=false∧B2=B1∨(s.x==q.x)=true∧decide (x < q.x)=false∧B2=B1∨(s.x==q.x)=true∧decide (x < q.x)=true∧decide (M1≤y)=false∧B2=B1∨
    (s.x==q.x)=true∧decide (x < q.x)=true∧decide (M1≤y)=true∧decide (y < M2)=false∧B2=B1∨(s.x==q.x)=true∧decide (x < q.x)=true∧decide (M1≤y)=true∧decide (y < M2)=true∧B2= !B1):=by
    show _∨_;rw [E1.out,E2.out];cases (s.x==q.x) <;> cases decide (x < q.x) <;> cases decide (M1≤y) <;> cases decide (y < M2) <;> simp
   clear E1 E2;rcases hx.out with ⟨h1,rfl⟩ | ⟨h1,h2,rfl⟩ | ⟨h1,h2,h3,rfl⟩ | ⟨h1,h2,h3,h4,rfl⟩ | ⟨h1,h2,h3,h4,rfl⟩;all_goals
    clear hx;go_wp2;go_roundw;case rel=> exact⟨k + 1,by go_num,by rw [fR.out],by omega,eW.out⟩
    case measure=> simp only [aK];omega
  ·obtain rfl:n=k:=by omega
   go_wp2;go_ret;exact⟨by rw [HN.out] <;> rfl,HB.out⟩
def adjB(r s i k n:Nat):Bool:=decide (r=s)&&(decide (k≤i)||(decide (k=i+1)||(decide (i=0)&&decide (k+1=n))))
def ND(f:Nat→List Sd)(r i s k:Nat):Bool:= !adjB r s i k (f r).length&&T5 (f r) i (f s) k
def Xa(f:Nat→List Sd)(r i s:Nat):Bool:=decide (r≤s)&&anyN (ND f r i s) (f s).length
def crs2(f:Nat→List Sd)(N r i:Nat):Bool:=anyN (Xa f r i) N
def wg(f:Nat→List Sd)(N r:Nat):Bool:=anyN (crs2 f N r) (f r).length
def I4(f:Nat→List Sd)(N:Nat):Bool:=anyN (wg f N) N
theorem YP{f:Nat→List Sd}{N r i s k:Nat}(hr:r<N)(hi:i<(f r).length)(hs:s<N)(h:r≤s)(hk:k<(f s).length)(h4:ND f r i s k=true):I4 f N=true:=
 eJ.2 ⟨r,hr,eJ.2 ⟨i,hi,eJ.2 ⟨s,hs,by unfold Xa;rw[decide_eq_true h,eJ.2 ⟨k,hk,h4⟩];rfl⟩⟩⟩
theorem BH{a b:Int}{p:Prop}[Decidable p](h:a=b↔p):(a==b)=decide p:=by rw[Bool.eq_iff_iff,beq_iff_eq,decide_eq_true_iff];exact h
def bQ(rs:List Rg)(r:Nat):List Sd:=(rs.getD r default).ss
theorem T6 (a:Option cT) (N cap:Nat) (rs:List Rg) (w:aF) (hl:rs.length=N) (hN:N≤1000) (hn:∀ r,(bQ rs r).length≤1000) (rr:GL w a rs) :
 aW aC 81 #[aB a N cap] w (Rt (aN (I4 (bQ rs) N)) w):=by
 have HT:=zq (fun r i s k (_:r < N) (_:s < N) (hi:i < (bQ rs r).length) (hk:k < (bQ rs s).length) W (hW:Below w.heap.size w W)=>
  dn (rs.getD r default).a (rs.getD s default).a (bQ rs r).length (rs.getD r default).cap (bQ rs s).length (rs.getD s default).cap i k (bQ rs r) (bQ rs s) W rfl rfl (by have:=hn r;omega) (by have:=hn s;omega) hi hk
   ((rr.below hW).at (i:=r) (by omega) rfl).choose_spec.choose_spec.2.2 ((rr.below hW).at (i:=s) (by omega) rfl).choose_spec.choose_spec.2.2)
 have HR:=zq rr;have HL:=zq hl;have HN:=zq hn;have HX:bH (∀ r i s k,r < N→i < (bQ rs r).length→s < N→r≤s→k < (bQ rs s).length→ND (bQ rs) r i s k=true→I4 (bQ rs) N=true):=fun r i s k h1 h2 h3 h4 h5 h6=> YP h1 h2 h3 h4 h5 h6;have HX0:bH (anyN (wg (bQ rs) N) N=false→I4 (bQ rs) N=false):=fun h=> h;clear hl rr hn;generalize I4 (bQ rs) N=R at *;go_enter func81,ntmps81;go_wp2;go_loopw [3] (fun i wr=> ∃ r:Nat,i=aD aE r∧r≤N∧bH (anyN (wg (bQ rs) N) r=false)∧bH (Below w.heap.size w wr)) (fun i _=> N - (aK i).toNat);case atStart=> exact⟨0,rfl,bN _,rfl,aH _ w⟩
 case round=>
  obtain⟨r,rfl,hr,HA,HB⟩:=hrel;rename aF=> wr;by_cases hrN:r < N
  ·obtain⟨b,o,rfl,c0, -⟩:=(HR.out.below HB.out).at (i:=r) (by rw [HL.out];exact hrN) rfl;have yB:=HN.out r;obtain⟨n,kd⟩:=nm (bQ rs r).length;have hnl' :(rs.getD r default).ss.length=n:=kd;rw [hnl'] at c0;rw [kd] at yB;have Xb:=zq kd;have wh:(r:Int) < N:=by omega
   clear kd hnl';have HA0:bH (anyN (crs2 (bQ rs) N r) 0=false):=rfl;go_wp2;go_loopw [4] (fun i wi=> ∃ q:Nat,i=aD aE q∧q≤n∧bH (anyN (crs2 (bQ rs) N r) q=false)∧bH (Below wr.heap.size wr wi)) (fun i _=> n - (aK i).toNat);case atStart=> exact⟨0,rfl,bN _,HA0.out,aH _ wr⟩
   case round=>
    obtain⟨i,rfl,hi,Vl,eW⟩:=hrel;rename aF=> wi;have c0:=cF eW.out c0;by_cases hin:i < n
    ·have HA0:bH (anyN (Xa (bQ rs) r i) r=false):=by
      show _=_;rw [dC];intro s hs;unfold Xa;rw [decide_eq_false (by omega)];rfl
     go_wp2;go_loopw [5] (fun j ws=> ∃ s:Nat,j=aD aE s∧r≤s∧s≤N∧bH (anyN (Xa (bQ rs) r i) s=false)∧bH (Below wr.heap.size wr ws)) (fun i _=> N - (aK i).toNat);case atStart=> exact⟨r,rfl,aG _,hr,HA0.out,eW.out⟩
     case round=>
      obtain⟨s,rfl,Yg,hs,Qj,fR⟩:=hrel;rename aF=> ws;clear c0;by_cases hsN:s < N
      ·obtain⟨b',o',e1,d0, -⟩:=(HR.out.below (aU HB.out fR.out)).at (i:=s) (by rw [HL.out];exact hsN) rfl;injection e1 with e1;injection e1 with e1 e2;subst e1 e2;obtain⟨b',o',e1,c0, -⟩:=(HR.out.below (aU HB.out fR.out)).at (i:=r) (by rw [HL.out];exact hrN) rfl;injection e1 with e1;injection e1 with e1 e2;subst e1 e2;rw [show(rs.getD r default).ss.length=n from Xb.out] at c0;have Ab:=HN.out s;obtain⟨m,Ib⟩:=nm (bQ rs s).length;have hml' :(rs.getD s default).ss.length=m:=Ib;rw [hml'] at d0;rw [Ib] at Ab;have jx:=zq Ib;have hsI:(s:Int) < N:=by omega
       clear Ib hml';have HA0:bH (anyN (ND (bQ rs) r i s) 0=false):=rfl;go_wp2;go_loopw [6] (fun j wk=> ∃ k:Nat,j=aD aE k∧k≤m∧bH (anyN (ND (bQ rs) r i s) k=false)∧bH (Below ws.heap.size ws wk)) (fun i _=> m - (aK i).toNat);case atStart=> exact⟨0,rfl,bN _,HA0.out,aH _ ws⟩
       case round=>
        obtain⟨k,rfl,hk,HA3,HB3⟩:=hrel;rename aF=> wk;have c0:=cF HB3.out c0;have d0:=cF HB3.out d0;by_cases hkm:k < m
        ·have vR:=zq (aU HB.out (aU fR.out HB3.out));have HTk:=zq (HT.out r i s k hrN hsN (by rw [Xb.out];exact hin) (by rw [jx.out];exact hkm) wk.drew vR.out.drew);rw [Xb.out,jx.out] at HTk;have E:bH (ND (bQ rs) r i s k=(!adjB r s i k n && T5 (bQ rs r) i (bQ rs s) k)):=by show _=_;rw [← Xb.out];rfl
         have X1:=zq (HX.out r i s k hrN (by rw [Xb.out];exact hin) hsN Yg (by rw [jx.out];exact hkm));have X2:=zq (fun h:ND (bQ rs) r i s k=false=> gO HA3.out h);have jy:=zq (aU fR.out HB3.out);generalize T5 (bQ rs r) i (bQ rs s) k=T at *;generalize ND (bQ rs) r i s k=C at *;generalize (rs.getD r default).a=ar at *;generalize (rs.getD s default).a=as' at *;generalize (rs.getD r default).cap=cr at *;generalize (rs.getD s default).cap=cs at *;have hx:bH ((((r:Int)==(s:Int))=false∨((r:Int)==(s:Int))=true∧¬ k≤i∧((k:Int)==(i:Int) + 1)=false∧(((i:Int)==0)=false∨((i:Int)==0)=true∧((k:Int)==(n:Int) - 1)=false))∧C=T∨
          (((r:Int)==(s:Int))=true∧(k≤i∨¬ k≤i∧(((k:Int)==(i:Int) + 1)=true∨((k:Int)==(i:Int) + 1)=false∧((i:Int)==0)=true∧((k:Int)==(n:Int) - 1)=true)))∧C=false):=by
          show _∨_;rw [E.out];unfold adjB;rw [BH (a:=(r:Int)) (b:=s) (p:=r=s) (by omega),BH (a:=(k:Int)) (b:=(i:Int) + 1) (p:=k=i + 1) (by omega),BH (a:=(i:Int)) (b:=0) (p:=i=0) (by omega),BH (a:=(k:Int)) (b:=(n:Int) - 1) (p:=k + 1=n) (by omega)];by_cases g:k≤i
          ·cases decide (r=s) <;> simp [g]
          ·cases decide (r=s) <;> cases decide (k=i + 1) <;> cases decide (i=0) <;> cases decide (k + 1=n) <;> simp [g]
         clear E;rcases hx.out with ⟨hq,rfl⟩ | ⟨hq,rfl⟩
         ·rcases hq with h1 | ⟨h1,h2,h3,(h4 | ⟨h4,h5⟩)⟩;all_goals
           clear hx;go_wp2;go_still_tail 10,(by kernel_rfl);change wpList _ _ _ _ _ wk.drew;have HBd:=zq jy.out.drew;have Bv:=zq HB3.out.drew;generalize wk.drew=W2 at *;go_wp2_with fail
           refine HTk.out.mono ?_;rintro e W3 ⟨rfl,hb⟩;have HBe:=zq (aU HBd.out hb);have dp:=zq (aU Bv.out hb);have wl:=zq (aU HB.out HBe.out);clear hb HTk;cases C with
           | true=>
            have e1:=zq (X1.out rfl);go_wp2;go_ret;exact⟨by rw [e1.out] <;> rfl,wl.out⟩
           | false=>
            have e1:=zq (X2.out rfl);go_wp2;go_roundw;case rel=> exact⟨k + 1,by go_num,by omega,e1.out,dp.out⟩
            case measure=> simp only [aK];omega
         ·have e1:=zq (X2.out rfl);rcases hq with ⟨h1,(h2 | ⟨h2,(h3 | ⟨h3,h4,h5⟩)⟩)⟩;all_goals
           clear hx;go_wp2;go_roundw;case rel=> exact⟨k + 1,by go_num,by omega,e1.out,HB3.out⟩
           case measure=> simp only [aK];omega
        ·obtain rfl:m=k:=by omega
         have e1:=zq (gO (p:=Xa (bQ rs) r i) Qj.out (by unfold Xa;rw [jx.out,HA3.out,Bool.and_false]));go_wp2;go_roundw;case rel=> exact⟨s + 1,by go_num,by omega,by omega,e1.out,aU fR.out HB3.out⟩
         case measure=> simp only [aK];omega
      ·obtain rfl:N=s:=by omega
       have e1:=zq (gO (p:=crs2 (bQ rs) N r) Vl.out Qj.out);go_wp2;go_roundw;case rel=> exact⟨i + 1,by go_num,by omega,e1.out,fR.out⟩
       case measure=> simp only [aK];omega
    ·obtain rfl:n=i:=by omega
     have e1:=zq (gO (p:=wg (bQ rs) N) HA.out (by unfold wg;rw [Xb.out];exact Vl.out));go_wp2;go_roundw;case rel=> exact⟨r + 1,by go_num,by omega,e1.out,aU HB.out eW.out⟩
     case measure=> simp only [aK];omega
  ·obtain rfl:N=r:=by omega
   have e1:=zq (HX0.out HA.out);go_wp2;go_ret;exact⟨by rw [e1.out] <;> rfl,HB.out⟩
def JF(f:Nat→List Sd)(r s:Nat):Bool:= !decide (s=r)&&(NE (f s) ((f r).getD 0 default).x ((f r).getD 0 default).y !=decide (s=0))
def GN(f:Nat→List Sd)(N r:Nat):Bool:=decide (0≤sA (f r) (f r).length)||anyN (JF f r) N
def C8(f:Nat→List Sd)(N:Nat):Bool:= !decide (sA (f 0) (f 0).length≤0)&& !anyN (fun r=>decide (1≤r)&&GN f N r) N
theorem plc_hit{f:Nat→List Sd}{N r:Nat}(h1:1≤r)(h2:r<N)(h:GN f N r=true):C8 f N=false:=by
 unfold C8;rw[eJ.2 ⟨r,h2,by rw[decide_eq_true h1,h];rfl⟩];simp
theorem Xk (a:Option cT) (N cap:Nat) (rs:List Rg) (w:aF) (hl:rs.length=N) (hN:N≤1000) (hN0:0 < N) (hn:∀ r,(bQ rs r).length≤1000) (hp:∀ r,r < N→0 < (bQ rs r).length) (hC:∀ r,FE (bQ rs r)) (rr:GL w a rs) :
    aW aC 82 #[aB a N cap] w fun e w' => e=aQ (aN (C8 (bQ rs) N))∧Dr w w' :=by
  have HT:=zq (fun r (_:r < N) W (hW:Dr w W)=> dm (rs.getD r default).a (bQ rs r).length (rs.getD r default).cap (bQ rs r) W rfl (hn r) (hC r) ((rr.below hW.below).at (i:=r) (by omega) rfl).choose_spec.choose_spec.2.2)
  have HI:=zq (fun r (_:r < N) x y W (hW:Dr w W)=> Xg (rs.getD r default).a (bQ rs r).length (rs.getD r default).cap (bQ rs r) x y W rfl (hn r) ((rr.below hW.below).at (i:=r) (by omega) rfl).choose_spec.choose_spec.2.2)
  have HR:=zq rr
  have HL:=zq hl
  have HP:=zq hp
  have X1:bH (decide (sA (bQ rs 0) (bQ rs 0).length≤0)=true→C8 (bQ rs) N=false):=fun h=> by unfold C8;rw [h];rfl
  have X2:bH (∀ r,1≤r→r < N→GN (bQ rs) N r=true→C8 (bQ rs) N=false):=fun r h1 h2 h=> plc_hit h1 h2 h
  have X3:bH (decide (sA (bQ rs 0) (bQ rs 0).length≤0)=false→anyN (fun r=> decide (1≤r) && GN (bQ rs) N r) N=false→C8 (bQ rs) N=true):=fun h h2=> by unfold C8;rw [h,h2];rfl
  clear hl rr hp hn hC
  generalize C8 (bQ rs) N=R at *
  obtain⟨b,o,rfl,c0, -⟩:=HR.out.at (i:=0) (by rw [HL.out];exact hN0) rfl
  have HT0:=zq (HT.out 0 hN0 w (.refl w))
  rw [show(rs.getD 0 default).ss.length=(bQ rs 0).length from rfl,oE] at c0
  generalize (bQ rs 0).length=n0 at *
  generalize (rs.getD 0 default).a=a0 at *
  generalize (rs.getD 0 default).cap=q0 at *
  generalize sA (bQ rs 0) n0=T0 at *
  go_enter func82,ntmps82
  go_wp2_with fail
  refine HT0.out.mono ?_
  rintro e W ⟨rfl,hd⟩
  have HD:=zq hd
  clear hd HT0 c0
  by_cases h0:T0≤0
  · have e1:=zq (X1.out (decide_eq_true h0))
    go_wp2
    go_ret
    exact⟨by rw [e1.out] <;> rfl,HD.out⟩
  · have e0:=zq (X3.out (decide_eq_false h0))
    clear X1 X3
    go_wp2
    go_loopw [3] (fun i wr=> ∃ r:Nat,i=aD aE r∧1≤r∧r≤N∧bH (anyN (fun r=> decide (1≤r) && GN (bQ rs) N r) r=false)∧bH (Dr w wr)) (fun i _=> N - (aK i).toNat)
    case atStart=> exact⟨1,rfl,aG _,hN0,rfl,HD.out⟩
    case round=>
      clear HD
      obtain⟨r,rfl,hr1,hr,HA,HD⟩:=hrel
      rename aF=> wr
      by_cases hrN:r < N
      · obtain⟨b',o',e1,c0,Ml⟩:=(HR.out.below HD.out.below).at (i:=r) (by rw [HL.out];exact hrN) rfl
        injection e1 with e1;injection e1 with e1 e2;subst e1 e2
        have Ou:=zq (HT.out r hrN wr HD.out)
        have hpr:0 < (rs.getD r default).ss.length:=HP.out r hrN
        have hpn:=HP.out r hrN
        have Ca:=zq Ml
        have E:bH (GN (bQ rs) N r=(decide (0≤sA (bQ rs r) (bQ rs r).length) || anyN (JF (bQ rs) r) N)):=rfl
        have X2r:=zq (X2.out r hr1 hrN)
        have X4:=zq (fun h:GN (bQ rs) N r=false=> gO (p:=fun r=> decide (1≤r) && GN (bQ rs) N r) HA.out (by rw [decide_eq_true hr1,h];rfl))
        rw [show(rs.getD r default).ss.length=(bQ rs r).length from rfl] at c0
        clear Ml
        generalize (bQ rs r).length=n at *
        generalize (rs.getD r default).a=ar at *
        generalize (rs.getD r default).cap=cr at *
        generalize sA (bQ rs r) n=T at *
        have wh:(r:Int) < N:=by omega
        go_wp2_with fail
        refine Ou.out.mono ?_
        rintro e W2 ⟨rfl,hd⟩
        have IK:=zq (HD.out.trans hd)
        have c0:=cF hd.below c0
        have Ca:=zq (Ca.out.below hd.below)
        clear hd Ou
        by_cases h1:0≤T
        · have e1:=zq (X2r.out (by rw [E.out,decide_eq_true h1];rfl))
          go_wp2
          go_ret
          exact⟨by rw [e1.out] <;> rfl,IK.out⟩
        · rw [decide_eq_false h1,oP] at E
          obtain⟨ab,ao,rfl,d0,d1, -⟩:=Ca.out.at (i:=0) hpr rfl
          simp only [Nat.zero_mul,oE] at d0 d1
          have HRz:=zq Ca.out
          clear Ca
          go_wp2
          go_loopw [4] (fun i ws=> ∃ s:Nat,i=aD aE s∧s≤N∧bH (anyN (JF (bQ rs) r) s=false)∧bH (Dr W2 ws)) (fun i _=> N - (aK i).toNat)
          case atStart=> exact⟨0,rfl,bN _,rfl,Dr.refl _⟩
          case round=>
            obtain⟨s,rfl,hs,Qj,RA⟩:=hrel
            rename aF=> ws
            by_cases hsN:s < N
            · obtain⟨b',o',e1,k0, -⟩:=(HR.out.below (IK.out.trans RA.out).below).at (i:=s) (by rw [HL.out];exact hsN) rfl
              injection e1 with e1;injection e1 with e1 e2;subst e1 e2
              have c0:=cF RA.out.below c0
              have d0:=cF RA.out.below d0
              have d1:=cF RA.out.below d1
              rw [show(rs.getD s default).ss.length=(bQ rs s).length from rfl] at k0
              have HIs:=zq (fun W hW=> HI.out s hsN ((bQ rs r).getD 0 default).x ((bQ rs r).getD 0 default).y W hW)
              have E2:bH (JF (bQ rs) r s=(!decide (s=r) && (NE (bQ rs s) ((bQ rs r).getD 0 default).x ((bQ rs r).getD 0 default).y !=decide (s=0)))):=rfl
              have X5:=zq (fun h:JF (bQ rs) r s=true=> X2r.out (by rw [E.out];exact eJ.2 ⟨s,hsN,h⟩))
              have X6:=zq (fun h:JF (bQ rs) r s=false=> gO Qj.out h)
              have HDw:=zq (IK.out.trans RA.out)
              have hsI:(s:Int) < N:=by omega
              generalize JF (bQ rs) r s=B at *
              generalize NE (bQ rs s) ((bQ rs r).getD 0 default).x ((bQ rs r).getD 0 default).y=I at *
              rw [show(rs.getD r default).ss=bQ rs r from rfl] at d0 d1
              generalize ((bQ rs r).getD 0 default).x=x0 at *
              generalize ((bQ rs r).getD 0 default).y=y0 at *
              generalize (bQ rs s).length=m at *
              generalize (rs.getD s default).a=as' at *
              generalize (rs.getD s default).cap=cs at *
              by_cases hsr:s=r
              · have hq:((s:Int) !=(r:Int))=false:=by rw [hsr];simp
                have e1:=zq (X6.out (by rw [E2.out,decide_eq_true hsr];rfl))
                clear hsr
                go_wp2
                go_quiet (fail)
                go_wp2
                go_roundw
                case rel=> exact⟨s + 1,by go_num,by omega,e1.out,RA.out.trans (.drewN _ _)⟩
                case measure=> simp only [aK];omega
              · have hq:((s:Int) !=(r:Int))=true:=by rw [bne_iff_ne];omega
                have hz:((s:Int)==0)=decide (s=0):=BH (by omega)
                have Yp:decide (s=0)=decide (s=0):=rfl
                rw [decide_eq_false hsr,Bool.not_false,kN] at E2
                obtain⟨Z,hZ⟩:=nm (decide (s=0))
                rw [hZ] at hz E2
                clear Yp hZ hsr
                go_wp2
                go_quiet ((go_at_call 160;exact Calls.quiet_of (HIs.out _ (HDw.out.trans (.drewN _ _)))))
                cases I <;> cases Z
                case' true.false=> have e1:=zq (X5.out E2.out)
                case' false.true=> have e1:=zq (X5.out E2.out)
                case' true.true=> have e1:=zq (X6.out E2.out)
                case' false.false=> have e1:=zq (X6.out E2.out)
                all_goals
                  clear E2 X5 X6
                  go_wp2
                  first
                    | (go_roundw
                       case rel=> exact⟨s + 1,by go_num,by omega,e1.out,RA.out.trans (.drewN _ _)⟩
                       case measure=> simp only [aK];omega)
                    | (go_ret;exact⟨by rw [e1.out] <;> rfl,HDw.out.trans (.drewN _ _)⟩)
                    | fail
            · obtain rfl:N=s:=by omega
              have e1:=zq (X4.out (by rw [E.out];exact Qj.out))
              go_wp2
              go_roundw
              case rel=> exact⟨r + 1,by go_num,by omega,by omega,e1.out,IK.out.trans RA.out⟩
              case measure=> simp only [aK];omega
      · obtain rfl:N=r:=by omega
        have e1:=zq (e0.out HA.out)
        go_wp2
        go_ret
        exact⟨by rw [e1.out] <;> rfl,HD.out⟩
def wm(a b:Sd):Bool:=a.gable||(b.gable||a.plate !=b.plate)
def Er(l:List Sd)(i:Nat):Bool:=decide (Vn l i<0)&&wm (l.getD (pre l.length i) default) (l.getD i default)
def Mj(f:Nat→List Sd)(r:Nat):Bool:=anyN (Er (f r)) (f r).length
def C5(l:List Sd)(i:Nat):Bool:= !(l.getD i default).gable
def BI(f:Nat→List Sd)(r:Nat):Bool:=anyN (C5 (f r)) (f r).length
def GM(f:Nat→List Sd)(N:Nat):Bool:= !anyN (Mj f) N&&anyN (BI f) N
theorem I5{w:aF}{c1 c2:Array aS}{T1 T2:TypeId}:bT ((w.alloc (aJ c1 T1)).alloc (aJ c2 T2)).drew w.heap.size c1 T1∧bT ((w.alloc (aJ c1 T1)).alloc (aJ c2 T2)).drew (w.heap.size+1) c2 T2∧Below w.heap.size w ((w.alloc (aJ c1 T1)).alloc (aJ c2 T2)).drew:=by
 have:=bT.new (w.alloc (aJ c1 T1)) c2 T2;rw[World.size_alloc]at this;exact⟨(bT.new w _ _).alloc _,this,(((aH _ _).alloc (aG _) _).alloc (by simp) _).drew⟩
theorem Xc (a:Option cT) (N cap:Nat) (rs:List Rg) (w:aF) (hl:rs.length=N) (hN:N≤1000) (hn:∀ r,(bQ rs r).length≤1000) (hC:∀ r,FE (bQ rs r)) (rr:GL w a rs) :
 aW aC 83 #[aB a N cap] w (Rt (aN (GM (bQ rs) N)) w):=by
 have HT:=zq (fun r i (_:r < N) (hi:i < (bQ rs r).length) W (hW:Below w.heap.size w W)=> TZ (rs.getD r default).a (bQ rs r).length (rs.getD r default).cap i (bQ rs r) W rfl (by have:=hn r;omega) hi (hC r) ((rr.below hW).at (i:=r) (by omega) rfl).choose_spec.choose_spec.2.2);have HR:=zq rr;have HL:=zq hl;have HN:=zq hn;have X1:bH (∀ r,r < N→Mj (bQ rs) r=true→GM (bQ rs) N=false):=fun r hr h=> by unfold GM;rw [eJ.2 ⟨r,hr,h⟩];rfl
 have X2:bH (anyN (Mj (bQ rs)) N=false→GM (bQ rs) N=anyN (BI (bQ rs)) N):=fun h=> by unfold GM;rw [h];rfl
 clear hl rr hn hC;generalize GM (bQ rs) N=R at *;go_enter func83,ntmps83;go_wp2;go_loopw [3,4] (fun t i wr=> ∃ r:Nat,i=aD aE r∧t=aN (anyN (BI (bQ rs)) r)∧r≤N∧bH (anyN (Mj (bQ rs)) r=false)∧bH (Below w.heap.size w wr)) (fun _ i _=> N - (aK i).toNat);case atStart=> exact⟨0,rfl,rfl,bN _,rfl,aH _ w⟩
 case round=>
  obtain⟨r,rfl,rfl,hr,HA,HB⟩:=hrel;rename aF=> wr;by_cases hrN:r < N
  ·obtain⟨b,o,rfl,c0,Ml⟩:=(HR.out.below HB.out).at (i:=r) (by rw [HL.out];exact hrN) rfl;have Ca:=zq Ml;clear Ml;have yB:=HN.out r;have Ou:=zq (HT.out r);have X1r:=zq (X1.out r hrN);have X3:=zq (fun h:Mj (bQ rs) r=false=> gO (p:=Mj (bQ rs)) HA.out h);have E1:bH (Mj (bQ rs) r=anyN (Er (bQ rs r)) (bQ rs r).length):=rfl;have E2:bH (anyN (BI (bQ rs)) (r + 1)=(anyN (BI (bQ rs)) r || anyN (C5 (bQ rs r)) (bQ rs r).length)):=rfl;rw [show(rs.getD r default).ss.length=(bQ rs r).length from rfl] at c0;rw [show(rs.getD r default).ss=bQ rs r from rfl] at Ca;obtain⟨S2,hS2⟩:=nm (anyN (BI (bQ rs)) (r + 1));have HS2:=zq hS2;rw [hS2] at E2;clear hS2;generalize anyN (BI (bQ rs)) r=S1 at *;generalize (rs.getD r default).a=ar at *;generalize (rs.getD r default).cap=cr at *;have E3:bH (∀ i,Er (bQ rs r) i=(decide (Vn (bQ rs r) i < 0) && wm ((bQ rs r).getD (pre (bQ rs r).length i) default) ((bQ rs r).getD i default))):=fun i=> rfl;generalize bQ rs r=l at *;obtain⟨n,hn⟩:=nm l.length;have Hn:=zq hn;rw [hn] at c0 yB Ou E1 E2 E3;clear hn;have wh:(r:Int) < N:=by omega
   have HZ:bH (S1=(S1 || anyN (C5 l) 0)):=by show _=_;simp [anyN]
   go_wp2;go_loopw [3,6] (fun t i wi=> ∃ k:Nat,i=aD aE k∧t=aN (S1 || anyN (C5 l) k)∧k≤n∧bH (anyN (Er l) k=false)∧bH (Below wr.heap.size wr wi)) (fun _ i _=> n - (aK i).toNat);case atStart=> exact⟨0,rfl,by rw [← HZ.out],bN _,rfl,aH _ wr⟩
   case round=>
    obtain⟨k,rfl,rfl,hk,Qj,fR⟩:=hrel;rename aF=> wi;by_cases hkn:k < n
    ·have HTk:=zq (Ou.out k hrN hkn);have hpk:=zV hkn;have htm:=Mh hkn;have E3k:=zq (E3.out k);have X4:=zq (fun h:Er l k=true=> X1r.out (by rw [E1.out];exact eJ.2 ⟨k,hkn,h⟩));have X5:=zq (fun h:Er l k=false=> gO (p:=Er l) Qj.out h);have E4:bH ((S1 || anyN (C5 l) (k + 1))=((S1 || anyN (C5 l) k) || !(l.getD k default).gable)):=by show _=_;rw [anyN,Bool.or_assoc];rfl
     obtain⟨S4,hS4⟩:=nm (S1 || anyN (C5 l) (k + 1));have HS4:=zq hS4;rw [hS4] at E4;clear hS4;generalize (S1 || anyN (C5 l) k)=S3 at *;obtain⟨pb,po,rfl,f0,f1,f2,f3,f4,f5,f6⟩:=(Ca.out.below fR.out).at (i:=pre n k) (by rw [Hn.out];exact hpk) rfl;obtain⟨pb',po',e1,g0,g1,g2,g3,g4,g5,g6⟩:=(Ca.out.below fR.out).at (i:=k) (by rw [Hn.out];exact hkn) rfl;injection e1 with e1;injection e1 with e1 e2;subst e1 e2;generalize l.getD k default=q at *;generalize l.getD (pre n k) default=p at *;obtain⟨p0,p1,p2,p3,p4,p5,p6⟩:=p;obtain⟨q0,q1,q2,q3,q4,q5,q6⟩:=q;simp only [] at f0 f1 f2 f3 f4 f5 f6 g0 g1 g2 g3 g4 g5 g6;replace E3k:bH (Er l k=(decide (Vn l k < 0) && (p4 || (q4 || p5 !=q5)))):=E3k;replace E4:bH (S4=(S3 || !q4)):=E4;generalize Er l k=B at *;generalize Vn l k=T at *;generalize pre n k=m at *;have lpb:pb < wi.heap.size:=bG wi ⟨pb,_,none⟩ f0;have Bh:=zq (aU HB.out fR.out);go_wp2;have w1:IntKind.i64.wrap ((k:Int) + n)=(k:Int) + n:=aX _ (by omega);have w2:IntKind.i64.wrap ((k:Int) + n - 1)=(k:Int) + n - 1:=aX _ (by omega);have w3:(m:Int) < n:=by omega
     have w4:(0:Int)≤(m:Int):=by omega
     have w5:((n:Int)==0)=false:=by rw [beq_eq_false_iff_ne];omega
     have w6:(0:Int) < n:=by omega
     have w7:¬ n=0:=by omega
     have w8:¬ ((n:Int)=0):=by omega
     go_cut [7,8] (fun u v W=> ∃ g h,u= .pointer (some ⟨g,0,none⟩)∧v= .pointer (some ⟨h,0,none⟩)∧bH (bT W g #[aD aE p0,aD aE p1,aD aE p2,aD aE p3,aN p4,aD aE p5,aD aE p6] 74)∧bH (bT W h #[aD aE q0,aD aE q1,aD aE q2,aD aE q3,aN q4,aD aE q5,aD aE q6] 74)∧bH (Below wi.heap.size wi W));case first=>
      go_region_held3 (fun w' => (w'.cell? ⟨pb,po + m * 7,none⟩=some (aD aE p0)∧w'.cell? ⟨pb,po + m * 7 + 1,none⟩=some (aD aE p1)∧w'.cell? ⟨pb,po + m * 7 + 2,none⟩=some (aD aE p2)∧w'.cell? ⟨pb,po + m * 7 + 3,none⟩=some (aD aE p3)∧w'.cell? ⟨pb,po + m * 7 + 4,none⟩=some (aN p4)∧w'.cell? ⟨pb,po + m * 7 + 5,none⟩=some (aD aE p5)∧w'.cell? ⟨pb,po + m * 7 + 6,none⟩=some (aD aE p6))∧(w'.cell? ⟨pb,po + k * 7,none⟩=some (aD aE q0)∧w'.cell? ⟨pb,po + k * 7 + 1,none⟩=some (aD aE q1)∧w'.cell? ⟨pb,po + k * 7 + 2,none⟩=some (aD aE q2)∧w'.cell? ⟨pb,po + k * 7 + 3,none⟩=some (aD aE q3)∧w'.cell? ⟨pb,po + k * 7 + 4,none⟩=some (aN q4)∧w'.cell? ⟨pb,po + k * 7 + 5,none⟩=some (aD aE q5)∧w'.cell? ⟨pb,po + k * 7 + 6,none⟩=some (aD aE q6))) (go_keep) (fail)
      all_goals
       clear w1 w2;go_wp2;go_meet;case rel=>
        first
         | exact⟨_,_,rfl,rfl,I5.1,I5.2.1,I5.2.2⟩
         | exact⟨_,_,rfl,rfl,I5.2.1,I5.1,I5.2.2⟩
         | fail
     case rest=>
     clear w1 w2 w3 w4 w5 w6 w7 w8 f0 f1 f2 f3 f4 f5 f6 g0 g1 g2 g3 g4 g5 g6 lpb htm;obtain⟨g,h,rfl,rfl,HG,HH,IR⟩:=hcut;rename aF=> W7;have Ku:=zq (aU Bh.out IR.out);have Bv:=zq (aU fR.out IR.out);go_wp2_with fail
     refine(HTk.out _ Ku.out).mono ?_;rintro e W8 ⟨rfl,hb⟩;have dp:=zq (aU Bv.out hb);have HB8:=zq (aU Ku.out hb);have hg:=HG.out.below hb HG.out.lt;have hh:=HH.out.below hb HH.out.lt;have g4:=hg.cell 4;have g5:=hg.cell 5;have h4:=hh.cell 4;have h5:=hh.cell 5;simp only [aL,aI,List.getElem?_cons_succ] at g4 g5 h4 h5;have lg:=hg.lt;have lh:=hh.lt;clear hb hg hh HTk HG HH Bv Ku Bh IR;by_cases ht:T < 0
     ·rw [decide_eq_true ht,kN] at E3k;have hx:bH (p4=true∧B=true∨p4=false∧q4=true∧B=true∨p4=false∧q4=false∧(p5==q5)=false∧B=true∨p4=false∧q4=false∧(p5==q5)=true∧B=false):=by
       show _∨_;rw [E3k.out];unfold bne;cases p4 <;> cases q4 <;> cases p5==q5 <;> simp
      clear E3k;have hx2:bH (B=true∧(p4=true∨p4=false∧q4=true∨p4=false∧q4=false∧(p5 !=q5)=true)∨B=false∧p4=false∧q4=false∧(p5 !=q5)=false):=by
       unfold bne;rcases hx.out with ⟨h,h'⟩ | ⟨h,h2,h'⟩ | ⟨h,h2,h3,h'⟩ | ⟨h,h2,h3,h'⟩
       ·exact .inl ⟨h', .inl h⟩
       ·exact .inl ⟨h', .inr (.inl ⟨h,h2⟩)⟩
       ·exact .inl ⟨h', .inr (.inr ⟨h,h2,by rw [h3];rfl⟩)⟩
       ·exact .inr ⟨h',h,h2,by rw [h3];rfl⟩
      clear hx;rcases hx2.out with ⟨rfl,hq⟩ | ⟨rfl,rfl,rfl,h2⟩
      ·have e1:=zq (X4.out rfl);rcases hq with rfl | ⟨rfl,rfl⟩ | ⟨rfl,rfl,h2⟩;all_goals
        clear hx2;go_wp2;go_ret;exact⟨by rw [e1.out] <;> rfl,HB8.out⟩
      ·have e1:=zq (X5.out rfl);clear hx2;cases S3 with
       | true=>
        go_wp2;go_roundw;case rel=> exact⟨k + 1,by go_num,by rw [HS4.out,E4.out] <;> rfl,by omega,e1.out,dp.out⟩
        case measure=> simp only [aK];omega
       | false=>
        go_wp2;go_roundw;case rel=> exact⟨k + 1,by go_num,by rw [HS4.out,E4.out] <;> rfl,by omega,e1.out,dp.out⟩
        case measure=> simp only [aK];omega
     ·rw [decide_eq_false ht,mH] at E3k;have e1:=zq (X5.out E3k.out);clear E3k X4 X5;cases S3 with
      | true=>
       go_wp2;go_roundw;case rel=> exact⟨k + 1,by go_num,by rw [HS4.out,E4.out] <;> rfl,by omega,e1.out,dp.out⟩
       case measure=> simp only [aK];omega
      | false=>
       go_wp2;go_roundw;case rel=> exact⟨k + 1,by go_num,by rw [HS4.out,E4.out] <;> first | rfl | simp,by omega,e1.out,dp.out⟩
       case measure=> simp only [aK];omega
    ·obtain rfl:n=k:=by omega
     have e1:=zq (X3.out (by rw [E1.out];exact Qj.out));have e2:bH (S2=(S1 || anyN (C5 l) n)):=E2;go_wp2;go_roundw;case rel=> exact⟨r + 1,by go_num,by rw [HS2.out,e2.out],by omega,e1.out,aU HB.out fR.out⟩
     case measure=> simp only [aK];omega
  ·obtain rfl:N=r:=by omega
   have e1:=zq (X2.out HA.out);go_wp2;go_ret;exact⟨by rw [e1.out] <;> rfl,HB.out⟩
def dA(f:Nat→List Sd):Nat→Nat
 |0=>0
 |n+1=>dA f n+(f n).length
def J8(f:Nat→List Sd)(r:Nat):Bool:=decide ((f r).length=0)
def J9(l:List Sd)(i:Nat):Bool:= !yJ (l.getD i default)
def Fi(f:Nat→List Sd)(r:Nat):Bool:=anyN (J9 (f r)) (f r).length
def Fj(f:Nat→List Sd)(r:Nat):Bool:= !uO (f r)
def qQ(f:Nat→List Sd)(N:Nat):Int:=
 if N=0∨anyN (J8 f) N=true then 5 else if 24<dA f N then 4 else if anyN (Fi f) N=true then 2 else if anyN (Fj f) N=true then 14 else if I4 f N=true then 15 else if(C8 f N&&GM f N)=true then 0 else 14
theorem YS{f:Nat→List Sd}{N:Nat}(h:N=0):qQ f N=5:=by unfold qQ;rw[ip (.inl h)]
theorem YT{f:Nat→List Sd}{N:Nat}(h:anyN (J8 f) N=true):qQ f N=5:=by unfold qQ;rw[ip (.inr h)]
theorem YU{f:Nat→List Sd}{N:Nat}(h:N≠0)(h1:anyN (J8 f) N=false):qQ f N=if 24<dA f N then 4 else if anyN (Fi f) N=true then 2 else if anyN (Fj f) N=true then 14 else if I4 f N=true then 15 else if(C8 f N&&GM f N)=true then 0 else 14:=by
 unfold qQ;rw[iN];rintro(h2|h2)
 ·exact h h2
 ·rw[h1]at h2;cases h2
theorem GO{f:Nat→List Sd}{N:Nat}(h0:∀r,N≤r→f r=[])(h:anyN (Fi f) N=false):∀r,FE (f r):=fun r i=>by
 have hd:∀l:List Sd,l.length≤i→0≤(l.getD i default).x∧(l.getD i default).x≤65536∧0≤(l.getD i default).y∧(l.getD i default).y≤65536:=fun l hl=>by
  rw[aO,mI hl]
  exact⟨Int.le_refl 0,by decide,Int.le_refl 0,by decide⟩
 rcases fK r N with hr|hr
 ·rcases fK i (f r).length with hi|hi
  ·have h2:=dC.1 (dC.1 h r hr) i hi
   unfold J9 yJ outI at h2
   generalize(f r).getD i default=s at *
   simp at h2
   omega
  ·exact hd _ hi
 ·rw[h0 r hr];exact hd _ (bN _)
theorem Dx{rs:List Rg}{r:Nat}(h:rs.length≤r):bQ rs r=[]:=by
 unfold bQ;rw[aO,mI h];rfl
theorem ei (a:Option cT) (N cap:Nat) (rs:List Rg) (w:aF) (hl:rs.length=N) (hN:N≤1000) (hn:∀ r,(bQ rs r).length≤1000) (rr:GL w a rs) :
 aW aC 33 #[.agg #[aB a N cap]] w (Rt (aD aE (qQ (bQ rs) N)) w):=by
 have J5:=zq (fun (k:Nat) (hk:k≤N)=> (show dA (bQ rs) k≤1000 * k from by
  clear hk;induction k with
  | zero=> exact aG _
  | succ k ih=> have:=hn k;show dA (bQ rs) k + _≤_;omega))
 have HI:bH (anyN (Fi (bQ rs)) N=false→∀ r,FE (bQ rs r)):=fun h=> GO (fun r hr=> Dx (by omega)) h;have HSh:=zq (fun (hc:∀ r,FE (bQ rs r)) r (_:r < N) W (hW:Below w.heap.size w W)=> WZ (rs.getD r default).a (bQ rs r).length (rs.getD r default).cap (bQ rs r) W rfl (hn r) (hc r) ((rr.below hW).at (i:=r) (by omega) rfl).choose_spec.choose_spec.2.2);have wy:=zq (fun W (hW:Below w.heap.size w W)=> T6 a N cap rs W hl hN hn (rr.below hW));have wz:=zq (fun (h0:0 < N) (hp:∀ r,r < N→0 < (bQ rs r).length) (hc:∀ r,FE (bQ rs r)) W (hW:Below w.heap.size w W)=> qb (Xk a N cap rs W hl hN h0 hn hp hc (rr.below hW)));have HRx:=zq (fun (hc:∀ r,FE (bQ rs r)) W (hW:Below w.heap.size w W)=> Xc a N cap rs W hl hN hn hc (rr.below hW));have HRg:=zq WY;have HR:=zq rr;have HL:=zq hl;have Hn:=zq hn;have X0:bH (N=0→qQ (bQ rs) N=5):=YS;have X1:bH (∀ r,r < N→(bQ rs r).length=0→qQ (bQ rs) N=5):=fun r hr h=> YT (eJ.2 ⟨r,hr,by unfold J8;rw [decide_eq_true h]⟩);have X2:bH (N≠0→anyN (J8 (bQ rs)) N=false→qQ (bQ rs) N=if 24 < dA (bQ rs) N then 4 else if anyN (Fi (bQ rs)) N=true then 2 else if anyN (Fj (bQ rs)) N=true then 14 else if I4 (bQ rs) N=true then 15 else if (C8 (bQ rs) N && GM (bQ rs) N)=true then 0 else 14):=YU;clear hl hn rr;generalize qQ (bQ rs) N=R at *;have fA:=(aH _ w).alloc (aG _) (aJ #[aB a N cap] 24);have rG:=bT.new w #[aB a N cap] 24;obtain⟨W0,eQ⟩:=nm (w.alloc (aJ #[aB a N cap] 24));rw [eQ] at fA rG;have gY:=zq fA;have tD:=zq rG;have b0:=rG.cell 0;simp only [aL,aI] at b0;clear fA rG;by_cases h0:N=0
 ·have e1:=zq (X0.out h0);subst h0;go_enter func33,ntmps33;go_wp2;go_ret;(try rw [eQ]);exact⟨by rw [e1.out] <;> rfl,gY.out⟩
 ·have h0' :((N:Int)==0)=false:=by rw [beq_eq_false_iff_ne];omega
  replace X2:=zq (X2.out h0);have hpos:0 < N:=by omega
  clear X0 h0;go_enter func33,ntmps33;go_upto_region 1 with (fail)
  try rw [eQ]
  clear eQ;go_wp2;go_loopw [3,4] (fun t i wr=> ∃ r:Nat,i=aD aE r∧t=aD aE (dA (bQ rs) r:Nat)∧r≤N∧bH (anyN (J8 (bQ rs)) r=false)∧bH (Below W0.heap.size W0 wr)) (fun _ i _=> N - (aK i).toNat);case atStart=> exact⟨0,rfl,rfl,bN _,rfl,aH _ _⟩
  case round=>
   clear b0;obtain⟨r,rfl,rfl,hr,HA,HB⟩:=hrel;rename aF=> wr;have b0:=(tD.out.below HB.out tD.out.lt).cell 0;simp only [aL,aI] at b0;by_cases hrN:r < N
   ·obtain⟨b,o,rfl,c0, -⟩:=(HR.out.below (aU gY.out HB.out)).at (i:=r) (by rw [HL.out];exact hrN) rfl;rw [show(rs.getD r default).ss.length=(bQ rs r).length from rfl] at c0;have Fg:=J5.out r hr;have kK:=Hn.out r;have X1r:=zq (X1.out r hrN);have E1:bH (dA (bQ rs) (r + 1)=dA (bQ rs) r + (bQ rs r).length):=rfl;have X3:=zq (fun h:(bQ rs r).length≠0=> gO (p:=J8 (bQ rs)) HA.out (by unfold J8;rw [decide_eq_false h]));generalize dA (bQ rs) r=C at *;generalize (bQ rs r).length=n at *;have wh:(r:Int) < N:=by omega
    by_cases hz:n=0
    ·have e1:=zq (X1r.out hz);subst hz;go_wp2;go_ret;exact⟨by rw [e1.out] <;> rfl,aU gY.out HB.out⟩
    ·have Yp:((n:Int)==0)=false:=by rw [beq_eq_false_iff_ne];omega
     have e1:=zq (X3.out hz);clear hz X3 X1r;go_wp2;go_roundw;case rel=> exact⟨r + 1,by go_num,by rw [E1.out] <;> go_num,by omega,e1.out,HB.out⟩
     case measure=> simp only [aK];omega
   ·obtain rfl:N=r:=by omega
    replace X2:=zq (X2.out HA.out);have HEm:=zq HA.out;have Fg:=J5.out N hr;clear X1 HA J5;by_cases h24:24 < dA (bQ rs) N
    ·have e1:=zq (X2.out.trans (ip h24));generalize dA (bQ rs) N=C at *;go_wp2;go_ret;exact⟨by rw [e1.out] <;> rfl,aU gY.out HB.out⟩
    ·replace X2:=zq (X2.out.trans (iN h24));have Y1:bH (∀ r,r < N→Fi (bQ rs) r=true→R=2):=fun r hr h=> X2.out.trans (ip (eJ.2 ⟨r,hr,h⟩));replace X2:=zq (fun h:anyN (Fi (bQ rs)) N=false=> X2.out.trans (iN (by rw [h];decide)));generalize dA (bQ rs) N=C at *;go_wp2;clear b0;go_loopw [5] (fun i wr=> ∃ r:Nat,i=aD aE r∧r≤N∧bH (anyN (Fi (bQ rs)) r=false)∧bH (Below W0.heap.size W0 wr)) (fun i _=> N - (aK i).toNat);case atStart=> exact⟨0,rfl,bN _,rfl,HB.out⟩
     case round=>
      clear HB;obtain⟨r,rfl,hr,HA,HB⟩:=hrel;rename aF=> wr;have b0:=(tD.out.below HB.out tD.out.lt).cell 0;simp only [aL,aI] at b0;by_cases hrN:r < N
      ·obtain⟨b,o,rfl,c0,Ml⟩:=(HR.out.below (aU gY.out HB.out)).at (i:=r) (by rw [HL.out];exact hrN) rfl;rw [show(rs.getD r default).ss=bQ rs r from rfl] at c0 Ml;have Ca:=zq Ml;have kK:=Hn.out r;have Y1r:=zq (Y1.out r hrN);have E1:bH (Fi (bQ rs) r=anyN (J9 (bQ rs r)) (bQ rs r).length):=rfl;have X3:=zq (fun h:Fi (bQ rs) r=false=> gO (p:=Fi (bQ rs)) HA.out h);clear Ml;have E2:bH (∀ i,J9 (bQ rs r) i= !yJ ((bQ rs r).getD i default)):=fun i=> rfl;generalize (rs.getD r default).a=ar at *;generalize (rs.getD r default).cap=cr at *;generalize bQ rs r=l at *;obtain⟨n,hn⟩:=nm l.length;have Xb:=zq hn;rw [hn] at c0 kK E1;clear hn;have wh:(r:Int) < N:=by omega
       go_wp2;go_loopw [6] (fun i wi=> ∃ k:Nat,i=aD aE k∧k≤n∧bH (anyN (J9 l) k=false)∧bH (Below wr.heap.size wr wi)) (fun i _=> n - (aK i).toNat);case atStart=> exact⟨0,rfl,bN _,rfl,aH _ _⟩
       case round=>
        obtain⟨k,rfl,hk,Qj,fR⟩:=hrel;rename aF=> wi;have Bh:=zq (aU HB.out fR.out);have b0:=cF fR.out b0;have c0:=cF fR.out c0;by_cases hkn:k < n
        ·obtain⟨pb,po,rfl,f0,f1,f2,f3,f4,f5,f6⟩:=(Ca.out.below fR.out).at (i:=k) (by rw [Xb.out];exact hkn) rfl;have E2k:=zq (E2.out k);have X4:=zq (fun h:J9 l k=true=> Y1r.out (by rw [E1.out];exact eJ.2 ⟨k,hkn,h⟩));have X5:=zq (fun h:J9 l k=false=> gO (p:=J9 l) Qj.out h);have HRk:=zq (fun W=> HRg.out (l.getD k default) W);generalize l.getD k default=p at *;obtain⟨p0,p1,p2,p3,p4,p5,p6⟩:=p;simp only [] at f0 f1 f2 f3 f4 f5 f6;generalize J9 l k=B at *;generalize yJ ⟨p0,p1,p2,p3,p4,p5,p6⟩=D at *;unfold Sd.v Sd.cells at HRk;simp only [] at HRk;go_wp2_with fail
         refine(HRk.out _).mono ?_;rintro e W ⟨rfl,hb⟩;have dp:=zq (aU fR.out hb);have wl:=zq (aU Bh.out hb);clear hb HRk f0 f1 f2 f3 f4 f5 f6;cases D with
         | false=>
          have e1:=zq (X4.out E2k.out);go_wp2;go_ret;exact⟨by rw [e1.out] <;> rfl,aU gY.out wl.out⟩
         | true=>
          have e1:=zq (X5.out E2k.out);go_wp2;go_roundw;case rel=> exact⟨k + 1,by go_num,by omega,e1.out,dp.out⟩
          case measure=> simp only [aK];omega
        ·obtain rfl:n=k:=by omega
         have e1:=zq (X3.out (by rw [E1.out];exact Qj.out));go_wp2;go_roundw;case rel=> exact⟨r + 1,by go_num,by omega,e1.out,Bh.out⟩
         case measure=> simp only [aK];omega
      ·obtain rfl:N=r:=by omega
       have hC:=HI.out HA.out;replace HSh:=zq (HSh.out hC);replace wz:=zq (wz.out hpos (fun r hr=> by have:=dC.1 HEm.out r hr;unfold J8 at this;simp at this;exact List.length_pos_iff.2 this) hC);replace HRx:=zq (HRx.out hC);replace X2:=zq (X2.out HA.out);have Y2:bH (∀ r,r < N→Fj (bQ rs) r=true→R=14):=fun r hr h=> X2.out.trans (ip (eJ.2 ⟨r,hr,h⟩));replace X2:=zq (fun h:anyN (Fj (bQ rs)) N=false=> X2.out.trans (iN (by rw [h];decide)));clear HA HEm hC HI Y1 HRg;go_wp2;clear b0;go_loopw [7] (fun i wr=> ∃ r:Nat,i=aD aE r∧r≤N∧bH (anyN (Fj (bQ rs)) r=false)∧bH (Below W0.heap.size W0 wr)) (fun i _=> N - (aK i).toNat);case atStart=> exact⟨0,rfl,bN _,rfl,HB.out⟩
       case round=>
        clear HB;obtain⟨r,rfl,hr,HA,HB⟩:=hrel;rename aF=> wr;have b0:=(tD.out.below HB.out tD.out.lt).cell 0;simp only [aL,aI] at b0;have vR:=zq (aU gY.out HB.out);by_cases hrN:r < N
        ·obtain⟨b,o,rfl,c0, -⟩:=(HR.out.below vR.out).at (i:=r) (by rw [HL.out];exact hrN) rfl;have HSr:=zq (HSh.out r hrN wr vR.out);have E1:bH (Fj (bQ rs) r= !uO (bQ rs r)):=rfl;have X4:=zq (Y2.out r hrN);have X5:=zq (fun h:Fj (bQ rs) r=false=> gO (p:=Fj (bQ rs)) HA.out h);rw [show(rs.getD r default).ss.length=(bQ rs r).length from rfl] at c0;generalize Fj (bQ rs) r=B at *;generalize uO (bQ rs r)=D at *;generalize (rs.getD r default).a=ar at *;generalize (rs.getD r default).cap=cr at *;generalize (bQ rs r).length=n at *;have wh:(r:Int) < N:=by omega
         go_wp2_with fail
         refine HSr.out.mono ?_;rintro e W ⟨rfl,hb⟩;have dp:=zq (aU HB.out hb);clear hb HSr;cases D with
         | false=>
          have e1:=zq (X4.out E1.out);go_wp2;go_ret;exact⟨by rw [e1.out] <;> rfl,aU gY.out dp.out⟩
         | true=>
          have e1:=zq (X5.out E1.out);go_wp2;go_roundw;case rel=> exact⟨r + 1,by go_num,by omega,e1.out,dp.out⟩
          case measure=> simp only [aK];omega
        ·obtain rfl:N=r:=by omega
         replace X2:=zq (X2.out HA.out);clear HA HSh Y2;generalize I4 (bQ rs) N=K at *;generalize C8 (bQ rs) N=P at *;generalize GM (bQ rs) N=F at *;go_wp2_with fail
         refine(wy.out wr vR.out).mono ?_;rintro e W1 ⟨rfl,hb1⟩;have b0:=cF hb1 b0;have eW:=zq (aU vR.out hb1);have lw:=tD.out.lt;clear hb1;cases K with
         | true=>
          have e1:=zq X2.out;go_wp2;go_ret;exact⟨by rw [e1.out] <;> rfl,eW.out⟩
         | false=>
          go_wp2_with fail
          refine(wz.out W1 eW.out).mono ?_;rintro e W2 ⟨rfl,hb2⟩;have b0:=cF hb2 b0;have fR:=zq (aU eW.out hb2);clear hb2;cases P with
          | false=>
           have e1:=zq X2.out;go_wp2;go_ret;exact⟨by rw [e1.out] <;> rfl,fR.out⟩
          | true=>
           go_wp2_with fail
           refine(HRx.out W2 fR.out).mono ?_;rintro e W3 ⟨rfl,hb3⟩;have HB3:=zq (aU fR.out hb3);clear hb3;cases F with
           | false=>
            have e1:=zq X2.out;go_wp2;go_ret;exact⟨by rw [e1.out] <;> rfl,HB3.out⟩
           | true=>
            have e1:=zq X2.out;go_wp2;go_ret;exact⟨by rw [e1.out] <;> rfl,HB3.out⟩
def zY(f:Nat→List Sd)(N:Nat):Bool:=decide (12<dA f N∧dA f N≤24∨40<dA f N∨40<N)
theorem OO{f:Nat→List Sd}{N:Nat}(h:zY f N=false):N≤40∧(dA f N≤12∨24<dA f N∧dA f N≤40):=by
 have:=of_decide_eq_false h;omega
theorem Mn{f:Nat→List Sd}:∀{N r:Nat},r<N→(f r).length≤dA f N
 |N+1,r,h=>by
  rw[dA]
  rcases Nat.lt_succ_iff_lt_or_eq.1 h with h|rfl
  ·have:=Mn (f:=f) h;omega
  ·omega
theorem qU {f : Nat → List Sd} {k : Nat} : ∀ {N : Nat}, k ≤ N → dA f k ≤ dA f N
  | 0, h => by obtain rfl : k = 0 := by omega
               exact aG _
  | N + 1, h => by
    rcases fK N k with h2 | h2
    · obtain rfl : k = N + 1 := by omega
      exact aG _
    · have := qU (f := f) h2; rw [dA]; omega
theorem ej (a:Option cT) (N cap:Nat) (rs:List Rg) (w:aF) (hl:rs.length=N) (sT:dA (bQ rs) N≤9223372036854775807) (hN:N≤9223372036854775807) (rr:GL w a rs) :
 aW aC 5 #[.agg #[aB a N cap],aD aE 12] w (Rt (aN (zY (bQ rs) N)) w):=by
 have HR:=zq rr;have HL:=zq hl;have HM:bH (∀ k,k≤N→dA (bQ rs) k≤dA (bQ rs) N):=fun k hk=> qU hk;have E:bH (zY (bQ rs) N=decide (12 < dA (bQ rs) N∧dA (bQ rs) N≤24∨40 < dA (bQ rs) N∨40 < N)):=rfl;clear hl rr;generalize zY (bQ rs) N=R at *;obtain⟨T,hT⟩:=nm (dA (bQ rs) N);rw [hT] at sT HM E;have HT:=zq hT;clear hT;have gY:=zq ((aH _ w).alloc (aG _) (aJ #[aB a N cap] 24));have tD:=zq (bT.new w #[aB a N cap] 24);have b0:=tD.out.cell 0;simp only [aL,aI] at b0;go_enter func5,ntmps5;go_upto_region 1 with (fail)
 generalize w.alloc (aJ #[aB a N cap] 24)=W0 at *;go_wp2;go_loopw [5,6] (fun t i wr=> ∃ r:Nat,i=aD aE r∧t=aD aE (dA (bQ rs) r:Nat)∧r≤N∧wr=W0) (fun _ i _=> N - (aK i).toNat);case atStart=> exact⟨0,rfl,rfl,bN _,rfl⟩
 case round=>
  obtain⟨r,rfl,rfl,hr,rfl⟩:=hrel;by_cases hrN:r < N
  ·obtain⟨b,o,rfl,c0, -⟩:=(HR.out.below gY.out).at (i:=r) (by rw [HL.out];exact hrN) rfl;rw [show(rs.getD r default).ss.length=(bQ rs r).length from rfl] at c0;have E1:bH (dA (bQ rs) (r + 1)=dA (bQ rs) r + (bQ rs r).length):=rfl;have h1:=HM.out (r + 1) hrN;rw [E1.out] at h1;generalize dA (bQ rs) r=C at *;generalize (bQ rs r).length=n at *;have wh:(r:Int) < N:=by omega
   go_wp2;go_roundw;case rel=> exact⟨r + 1,by go_num,by rw [E1.out] <;> go_num,by omega,by first | rfl | trivial⟩
   case measure=> simp only [aK];omega
  ·obtain rfl:N=r:=by omega
   rw [HT.out];have hx:bH (12 < T∧T≤24∧R=true∨T≤12∧40 < N∧R=true∨T≤12∧¬ 40 < N∧R=false∨40 < T∧R=true∨24 < T∧T≤40∧40 < N∧R=true∨24 < T∧T≤40∧¬ 40 < N∧R=false):=by
    show _∨_;rw [E.out];simp only [decide_eq_true_eq,decide_eq_false_iff_not];omega
   clear E;rcases hx.out with ⟨g1,g2,rfl⟩ | ⟨g1,g2,rfl⟩ | ⟨g1,g2,rfl⟩ | ⟨g1,rfl⟩ | ⟨g1,g2,g3,rfl⟩ | ⟨g1,g2,g3,rfl⟩;all_goals
    clear hx;go_wp2;go_ret;exact⟨by first | rfl | (congr 2;simp;omega),gY.out⟩
end
end Go.Proofs.YtckgmoobicmbnaaGreatDoor
