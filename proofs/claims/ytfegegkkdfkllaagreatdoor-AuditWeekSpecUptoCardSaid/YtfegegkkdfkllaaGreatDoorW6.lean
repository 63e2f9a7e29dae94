/- Joined texts: the walk by computed conditions, the contracts of the functions, the plain laws. -/
import Derived.Test.YtfegegkkdfkllaaGreatDoorW1
import Derived.Test.YtfegegkkdfkllaaGreatDoorW2
import Derived.Test.YtfegegkkdfkllaaGreatDoorW3
import Derived.Test.YtfegegkkdfkllaaGreatDoorW4
import Derived.Test.YtfegegkkdfkllaaGreatDoorW5
import Derived.Test.YtfegegkkdfkllaaGreatDoorRows
import Derived.ChangeArms
import Derived.Deep.Slices
import Derived.LaidHandle
import Derived.LaidMore
import Derived.WideKeyElems2
import Derived.WideKeyArgs2
import Derived.MakeChecks
import Derived.FnData
import Derived.OpenShut
import Derived.Carry
import Derived.WideShapes
import Derived.RowKit
import Derived.ChangeAgain
set_option linter.unusedVariables false
set_option linter.unusedSimpArgs false
set_option maxRecDepth 100000
set_option maxHeartbeats 0
noncomputable section
open Array renaming getD_eq_getD_getElem?->FN,getElem?_toList->Du,length_toList->Ey
open ByteArray renaming size->CX
open Go renaming DataW->HQ,IntKind->IF,Lit->D2,MemPlace->Fv,Program->HP,World->H5
open Go.DataW renaming Trod->zvq,TrodAll->zyZ,Whole->zvy,trod->Gj,trod_array->zwz,trod_int->EV,trod_string->Dc,trod_struct->EE
open Go.DataW.agg renaming injEq->zww
open Go.DataW.map renaming injEq->zwx
open Go.Sx.D renaming bool->IL,fn->F3,int->IP,str->HW
open Go.Sx.zy renaming cons->Gw,nil->Ga
open Go.Value renaming formed->AL,okWide->zwI
open Go.World renaming cell?->Ec,cells?_some->zxB,var?_cell->C7
open List renaming find?_cons->EQ,find?_eq_none->zy3,find?_some->zyq,getElem?_eq_getElem->Ff,getElem?_eq_none->Gt,getElem?_map->G5,getElem?_take->Fa,length_cons->F2,lookup_cons->Ah,map_cons->Gb,map_nil->FQ,mem_cons->F5,mem_filter->FE,mem_map->Gd,mem_map_of_mem->zxM,mem_of_find?_eq_some->Au,mem_of_getElem?->GS,not_mem_nil->DM,sum_cons->DZ,take->HZ,take_succ_cons->FM,take_zero->Em
open List.cons renaming injEq->EP
open Nat renaming lt_or_ge->G4
open Option renaming bind_eq_some_iff->zzG,map_eq_some_iff->Dv,map_some->Fi
open Option.some renaming inj->Fl,injEq->Er
open Prod renaming fst->Hw
open Prod.mk renaming injEq->Dm
open _root_ renaming Array->IG,List->IU,String->DA,Unit->FI,absurd->Hu,congrArg->Gv,of_decide_eq_true->G0
namespace Go.Fo
open Go Go.Sx Go.Proofs
section
open Go.Proofs.YtfegegkkdfkllaaGreatDoor (Rows.uptoBulk Rows.uptoBulkAll)
def cW (W:H5):Cx:=⟨[],λb o=>∃v,W.cell? ⟨b,o,none⟩=some v,λr=>∃es clk,W.heap[r]? = some (.map es clk)⟩
theorem Ia (W:H5):HR (cW W) [] W where
 len:=rfl
 inj l l' b k k' h:=by simp[cW]at h
 box l b k x h:=by simp[cW]at h
 non l x h:=by simp[cW]at h
 lt l b k h:=by simp[cW]at h
 ilt b o h:=by
  obtain⟨v,hv⟩:=h;unfold Ec at hv;cases hb:W.heap[b]? with
  |none=>simp[hb]at hv
  |some x=>exact i8 hb
 jlt r h:=by obtain⟨es,clk,h⟩:=h;exact i8 h
 iap b o l k hi h:=by simp[cW]at h
 jap r l k hr h:=by simp[cW]at h
theorem jL {α:Type}{Q:Nat->α->Prop}:∀n,(∀i,i<n->∃a,Q i a)->∃zs:IU α,zs.length=n/\∀(i:Nat) a,zs[i]? = some a->Q i a
 |0,_=>⟨[],rfl,λi a h=>by simp at h⟩
 |n+1,h=>by
  obtain⟨zs,h1,h2⟩:=jL n λi hi=>h i (by omega);obtain⟨a,ha⟩:=h n (by omega);refine⟨zs++[a],by simp[h1],λi b hb=>?_⟩;rcases zo hb with hb|⟨rfl,rfl⟩
  ·exact h2 i b hb
  ·rw[h1];exact ha
theorem W0 {H α:Type}{wt:α->Nat}:∀{zs:IU α}{es:IU (HQ H×IU Fv)},zs.length=es.length->(∀(i:Nat) a y,zs[i]? = some a->es[i]? = some y->wt a<=Rows.uptoBulk y.1)->(zs.map wt).sum<=Rows.uptoBulkAll (es.map (·.1))
 |[],[],_,_=>by simp
 |a::zs,y::es,hl,h=>by have:=W0 (zs:=zs) (es:=es) (by simpa using hl) λi b z hb hz=>h (i+1) b z (by simpa using hb) (by simpa using hz);have:=h 0 a y rfl rfl;simp only[Gb,DZ,Rows.uptoBulkAll];omega
 |[],_::_,hl,_=>by simp at hl
 |_::_,[],hl,_=>by simp at hl
section
variable {H:Type}{enc:TypeId×Value->H}{P:HP}{W:H5}{held:Bool}
theorem yM {α:Type}(toD:α->D) (wt:α->Nat) {sz:Nat}(hs0:0<sz) (hsz:∀a,(toD a).cells.length=sz) {t e:TypeId}{fuel:Nat}{cs:IU Value}{x:HQ H×IU Fv}(ht:P.underlying t=some (.slice e)) (hc:P.cellsOf e=sz) (helem:∀n cs' y,fuel=n+1->Gj enc P W 0 (λ_=>true) held n e cs'=some y->∃a:α,zy (R1 (cW W).I (cW W).J W) cs' (toD a).cells/\wt a<=Rows.uptoBulk y.1) (h:Gj enc P W 0 (λ_=>true) held fuel t cs=some x):∃(zs:IU α) (v:Value),cs=[v]/\R1 (cW W).I (cW W).J W v (.sl (zs.map toD))/\(zs.map wt).sum+1<=Rows.uptoBulk x.1:=by
 rcases HQ.trod_slice ht h with⟨rfl,rfl⟩|⟨a,len,cap,elems,rest,n,hf,rfl,rfl,hb,hl,hm,hlen,hel,hsp,hns⟩
 ·exact⟨[],_,rfl,R1.nil,by simp[Rows.uptoBulk]⟩
 have hex:∀i,i<len->∃b:α,∃cs' y,W.cells? 0 (a.add (i*sz)) sz=some cs'/\elems[i]? = some y/\zy (R1 (cW W).I (cW W).J W) cs' (toD b).cells/\wt b<=Rows.uptoBulk y.1:=by intro i hi;have h1:=hel i hi;rw[Ff (by omega:i<elems.length),hc]at h1;obtain⟨cs',h2,h3⟩:=zzG.1 h1;obtain⟨b,h4,h5⟩:=helem n cs' _ hf h3;exact⟨b,cs',_,h2,by simp[hlen,hi],h4,h5⟩
 obtain⟨zs,has,hQ⟩:=jL len hex;have hsum:(zs.map wt).sum<=Rows.uptoBulkAll (elems.map (·.1)):=W0 (by rw[has,hlen]) λi b y hb hy=>by obtain⟨cs',y',_,h2,_,h4⟩:=hQ i b hb;rw[hy]at h2;cases h2;exact h4
 refine⟨zs,_,rfl,?_,by simp only[Rows.uptoBulk];omega⟩;rcases Nat.eq_zero_or_pos len with h0|h0
 ·have:zs=[]:=IU.eq_nil_of_length_eq_zero (by omega);subst this;subst h0;exact R1.emp a cap
 ·have hspot:a=⟨a.block,a.off,none⟩:=by
   have hlt:0<zs.length:=by omega
   obtain⟨cs',y,h1,_,h3,_⟩:=hQ 0 zs[0] (by simp[hlt]);obtain⟨_,h5,h6⟩:=zxB h1;have h7:=h6 0 hs0;have h8:(a.add (0*sz)).add 0=a:=by simp[Addr.add]
   rw[h8]at h7;have h9:0<cs'.length:=by omega
   rw[Ff h9]at h7;unfold Ec at h7;split at h7
   ·split at h7
    ·cases h7
    ·rename_i hs;obtain⟨b,o,s⟩:=a;cases s with
     |none=>rfl
     |some q=>simp at hs
   ·cases h7
  rw[hspot];have key:∀i j d,z1 (zs.map toD) i j=some d->∃v,W.cell? ⟨a.block,a.off+i*sz+j,none⟩=some v/\R1 (cW W).I (cW W).J W v d:=by
   intro i j d hd;unfold z1 at hd;obtain⟨x,hx,hj⟩:=zzG.1 hd;rw[G5]at hx;obtain⟨b,hb',rfl⟩:=Dv.1 hx;obtain⟨cs',y,h1,_,h3,_⟩:=hQ i b hb';obtain⟨_,h5,h6⟩:=zxB h1;obtain⟨v,hv,hr⟩:=h3.get hj;have hjl:j<sz:=by
    have:=hsz b;rcases G4 j (toD b).cells.length with h' |h'
    ·omega
    ·rw[Gt h']at hj;cases hj
   have h7:=h6 j hjl;rw[hv,Deep.add_add]at h7;have h8:a.add (i*sz+j)=⟨a.block,a.off+i*sz+j,none⟩:=by have h9:=wy a.block a.off (i*sz+j);rw[←hspot]at h9;rw[h9,Nat.add_assoc]
   rw[h8]at h7;exact⟨v,h7,hr⟩
  have e1:len=(zs.map toD).length:=by simp[has]
  rw[e1];refine R1.sl a.block a.off cap sz (zs.map toD) (λi j=>(W.cell? ⟨a.block,a.off+i*sz+j,none⟩).getD undef) ?_ ?_ ?_ (by simp[has];omega)
  ·intro d hd;obtain⟨b,_,rfl⟩:=Gd.1 hd;exact hsz b
  ·intro i j d hd;obtain⟨v,hv,_⟩:=key i j d hd;exact⟨⟨v,hv⟩,by simp[hv]⟩
  ·intro i j d hd;obtain⟨v,hv,hr⟩:=key i j d hd;simp only[hv,Option.getD_some];exact hr
theorem wi (s:ByteArray):Value.string s = .string ⟨s.data.toList.toArray⟩:=by cases s;simp
theorem Ma {fuel:Nat}{cs:IU Value}{x:HQ H×IU Fv}(h:Gj enc Tryz.prog W 0 (λ_=>true) held fuel 80 cs=some x):∃t:Tm,zy (R1 (cW W).I (cW W).J W) cs t.d.cells/\t.name.length+1<=Rows.uptoBulk x.1:=by
 obtain⟨xs,n,rfl,rfl,hl,hx,hf⟩:=EE Tryz.underlying80 h;have hc:Tryz.prog.cellsOf 80=3:=by kernel_rfl
 have hc3:Tryz.prog.cellsOf 3=1:=by kernel_rfl
 have hc9:Tryz.prog.cellsOf 9=1:=by kernel_rfl
 rw[hc]at hl;match cs,hl with
 |[v0,v1,v2],_ =>
 match xs,hx with
 |[x0,x1,x2],_ =>
 have h0:Gj enc Tryz.prog W 0 (λ_=>true) held n 3 (HZ (Tryz.prog.cellsOf 3) [v0,v1,v2])=some x0:=hf 0 _ rfl;have h1:Gj enc Tryz.prog W 0 (λ_=>true) held n 9 (HZ (Tryz.prog.cellsOf 9) [v1,v2])=some x1:=hf 1 _ rfl;have h2:Gj enc Tryz.prog W 0 (λ_=>true) held n 3 (HZ (Tryz.prog.cellsOf 3) [v2])=some x2:=hf 2 _ rfl;simp only[hc3,hc9,FM,Em]at h0 h1 h2;obtain⟨a,e0,f0,_⟩:=EV (k:= .i64) Tryz.underlying3 h0;obtain⟨b,e1,f1,_⟩:=Dc Tryz.underlying9 h1;obtain⟨c,e2,f2,_⟩:=EV (k:= .i64) Tryz.underlying3 h2;simp only[EP,and_true]at e0 e1 e2;subst e0 e1 e2 f0 f1 f2;refine⟨⟨a,b.data.toList,c⟩,?_,?_⟩
 ·rw[wi];exact Gw (.int _ _) (Gw (.str _) (Gw (.int _ _) Ga))
 ·simp[Rows.uptoBulk,Rows.uptoBulkAll];omega
theorem N0 {fuel:Nat}{cs:IU Value}{x:HQ H×IU Fv}(h:Gj enc Tryz.prog W 0 (λ_=>true) held fuel 87 cs=some x):∃t:Bd,zy (R1 (cW W).I (cW W).J W) cs t.d.cells/\t.name.length+1<=Rows.uptoBulk x.1:=by
 obtain⟨xs,n,rfl,rfl,hl,hx,hf⟩:=EE Tryz.underlying87 h;have hc:Tryz.prog.cellsOf 87=2:=by kernel_rfl
 have hc3:Tryz.prog.cellsOf 3=1:=by kernel_rfl
 have hc9:Tryz.prog.cellsOf 9=1:=by kernel_rfl
 rw[hc]at hl;match cs,hl with
 |[v0,v1],_ =>
 match xs,hx with
 |[x0,x1],_ =>
 have h0:Gj enc Tryz.prog W 0 (λ_=>true) held n 9 (HZ (Tryz.prog.cellsOf 9) [v0,v1])=some x0:=hf 0 _ rfl;have h1:Gj enc Tryz.prog W 0 (λ_=>true) held n 3 (HZ (Tryz.prog.cellsOf 3) [v1])=some x1:=hf 1 _ rfl;simp only[hc3,hc9,FM,Em]at h0 h1;obtain⟨b,e1,f1,_⟩:=Dc Tryz.underlying9 h0;obtain⟨c,e2,f2,_⟩:=EV (k:= .i64) Tryz.underlying3 h1;simp only[EP,and_true]at e1 e2;subst e1 e2 f1 f2;refine⟨⟨b.data.toList,c⟩,?_,?_⟩
 ·rw[wi];exact Gw (.str _) (Gw (.int _ _) Ga)
 ·simp[Rows.uptoBulk,Rows.uptoBulkAll]
theorem NK (ts:IU Tm):(ts.map λt=>t.name.length+1).sum=YR ts+ts.length:=by
 unfold YR;induction ts with
 |nil=>rfl
 |cons t r ih=>simp only[Gb,DZ,F2,ih];omega
theorem SR (ts:IU Bd):(ts.map λt=>t.name.length+1).sum=bU ts+ts.length:=by
 unfold bU;induction ts with
 |nil=>rfl
 |cons t r ih=>simp only[Gb,DZ,F2,ih];omega
theorem MZ (l:IU Fm):(l.map Fm.wt).sum=Fm.wts l:=by
 induction l with
 |nil=>rfl
 |cons t r ih=>simp only[Gb,DZ,Fm.wts,ih]
theorem trodFm:∀(fuel:Nat) (cs:IU Value) (x:HQ H×IU Fv),Gj enc Tryz.prog W 0 (λ_=>true) held fuel 85 cs=some x->∃f:Fm,zy (R1 (cW W).I (cW W).J W) cs f.d.cells/\f.wt<=Rows.uptoBulk x.1:=by
 intro fuel;induction fuel using Nat.strongRecOn with
 |_ fuel ih =>
 intro cs x h;obtain⟨xs,n,rfl,rfl,hl,hx,hf⟩:=EE Tryz.underlying85 h;have hc:Tryz.prog.cellsOf 85=6:=by kernel_rfl
 have hc3:Tryz.prog.cellsOf 3=1:=by kernel_rfl
 have hc9:Tryz.prog.cellsOf 9=1:=by kernel_rfl
 have hc22:Tryz.prog.cellsOf 81=1:=by kernel_rfl
 have hc23:Tryz.prog.cellsOf 82=1:=by kernel_rfl
 have hc24:Tryz.prog.cellsOf 83=1:=by kernel_rfl
 have hc43:Tryz.prog.cellsOf 80=3:=by kernel_rfl
 have hc40:Tryz.prog.cellsOf 87=2:=by kernel_rfl
 rw[hc]at hl;match cs,hl with
 |[v0,v1,v2,v3,v4,v5],_ =>
 match xs,hx with
 |[x0,x1,x2,x3,x4,x5],_ =>
 have h0:Gj enc Tryz.prog W 0 (λ_=>true) held n 3 (HZ (Tryz.prog.cellsOf 3) [v0,v1,v2,v3,v4,v5])=some x0:=hf 0 _ rfl;have h1:Gj enc Tryz.prog W 0 (λ_=>true) held n 9 (HZ (Tryz.prog.cellsOf 9) [v1,v2,v3,v4,v5])=some x1:=hf 1 _ rfl;have h2:Gj enc Tryz.prog W 0 (λ_=>true) held n 3 (HZ (Tryz.prog.cellsOf 3) [v2,v3,v4,v5])=some x2:=hf 2 _ rfl;have h3:Gj enc Tryz.prog W 0 (λ_=>true) held n 81 (HZ (Tryz.prog.cellsOf 81) [v3,v4,v5])=some x3:=hf 3 _ rfl;have h4:Gj enc Tryz.prog W 0 (λ_=>true) held n 82 (HZ (Tryz.prog.cellsOf 82) [v4,v5])=some x4:=hf 4 _ rfl;have h5:Gj enc Tryz.prog W 0 (λ_=>true) held n 83 (HZ (Tryz.prog.cellsOf 83) [v5])=some x5:=hf 5 _ rfl;simp only[hc3,hc9,hc22,hc23,hc24,FM,Em]at h0 h1 h2 h3 h4 h5;obtain⟨a,e0,f0,_⟩:=EV (k:= .i64) Tryz.underlying3 h0;obtain⟨b,e1,f1,_⟩:=Dc Tryz.underlying9 h1;obtain⟨c,e2,f2,_⟩:=EV (k:= .i64) Tryz.underlying3 h2;obtain⟨ts,w3,e3,r3,b3⟩:=yM Tm.d (λt=>t.name.length+1) (by decide) (λ_=>rfl) Tryz.underlying81 hc43 (λ_ _ _ _ h=>Ma h) h3;obtain⟨bs,w4,e4,r4,b4⟩:=yM Bd.d (λt=>t.name.length+1) (by decide) (λ_=>rfl) Tryz.underlying82 hc40 (λ_ _ _ _ h=>N0 h) h4;obtain⟨l,w5,e5,r5,b5⟩:=yM Fm.d Fm.wt (by decide:0<6) (λf=>by rw[f.d_eq];rfl) Tryz.underlying83 hc (λm cs' y hm h=>ih m (by omega) cs' y h) h5;simp only[EP,and_true]at e0 e1 e2 e3 e4 e5;subst e0 e1 e2 e3 e4 e5 f0 f1 f2;refine⟨.mk a b.data.toList c ts bs l,?_,?_⟩
 ·rw[wi,Fm.d_mk];exact Gw (.int _ _) (Gw (.str _) (Gw (.int _ _) (Gw r3 (Gw r4 (Gw r5 Ga)))))
 ·rw[NK]at b3;rw[SR]at b4;rw[MZ]at b5;rw[Fm.wt_eq];simp only[Fm.name,Fm.ts,Fm.bs,Fm.l,Gb,FQ,Rows.uptoBulk,Rows.uptoBulkAll];omega
theorem MY {fuel:Nat}{cs:IU Value}{x:HQ H×IU Fv}(h:Gj enc Tryz.prog W 0 (λ_=>true) held fuel 89 cs=some x):∃r:Ru,zy (R1 (cW W).I (cW W).J W) cs r.d.cells/\r.wt+1<=Rows.uptoBulk x.1:=by
 obtain⟨xs,n,rfl,rfl,hl,hx,hf⟩:=EE Tryz.underlying89 h;have hc:Tryz.prog.cellsOf 89=10:=by kernel_rfl
 have hc3:Tryz.prog.cellsOf 3=1:=by kernel_rfl
 have hc4:Tryz.prog.cellsOf 4=1:=by kernel_rfl
 have hc9:Tryz.prog.cellsOf 9=1:=by kernel_rfl
 have hc22:Tryz.prog.cellsOf 82=1:=by kernel_rfl
 have hc33:Tryz.prog.cellsOf 85=6:=by kernel_rfl
 have hc40:Tryz.prog.cellsOf 87=2:=by kernel_rfl
 rw[hc]at hl;match cs,hl with
 |[v0,v1,v2,v3,v4,v5,v6,v7,v8,v9],_ =>
 match xs,hx with
 |[x0,x1,x2,x3,x4],_ =>
 have h0:Gj enc Tryz.prog W 0 (λ_=>true) held n 9 (HZ (Tryz.prog.cellsOf 9) [v0,v1,v2,v3,v4,v5,v6,v7,v8,v9])=some x0:=hf 0 _ rfl;have h1:Gj enc Tryz.prog W 0 (λ_=>true) held n 4 (HZ (Tryz.prog.cellsOf 4) [v1,v2,v3,v4,v5,v6,v7,v8,v9])=some x1:=hf 1 _ rfl;have h2:Gj enc Tryz.prog W 0 (λ_=>true) held n 3 (HZ (Tryz.prog.cellsOf 3) [v2,v3,v4,v5,v6,v7,v8,v9])=some x2:=hf 2 _ rfl;have h3:Gj enc Tryz.prog W 0 (λ_=>true) held n 82 (HZ (Tryz.prog.cellsOf 82) [v3,v4,v5,v6,v7,v8,v9])=some x3:=hf 3 _ rfl;have h4:Gj enc Tryz.prog W 0 (λ_=>true) held n 85 (HZ (Tryz.prog.cellsOf 85) [v4,v5,v6,v7,v8,v9])=some x4:=hf 4 _ rfl;simp only[hc3,hc4,hc9,hc22,hc33,FM,Em]at h0 h1 h2 h3 h4;obtain⟨b,e0,f0,_⟩:=Dc Tryz.underlying9 h0;obtain⟨g,e1,_⟩:=HQ.trod_bool Tryz.underlying4 h1;obtain⟨c,e2,f2,_⟩:=EV (k:= .i64) Tryz.underlying3 h2;obtain⟨bs,w3,e3,r3,b3⟩:=yM Bd.d (λt=>t.name.length+1) (by decide) (λ_=>rfl) Tryz.underlying82 hc40 (λ_ _ _ _ h=>N0 h) h3;obtain⟨f,r4,b4⟩:=trodFm _ _ _ h4;simp only[EP,and_true]at e0 e1 e2 e3;subst e0 e1 e2 e3 f0 f2;refine⟨⟨b.data.toList,g,c,bs,f⟩,?_,?_⟩
 ·rw[wi];rw[f.d_eq]at r4;exact Gw (.str _) (Gw (.bool _) (Gw (.int _ _) (Gw r3 r4)))
 ·rw[SR]at b3;unfold Ru.wt nq;simp only[Gb,FQ,Rows.uptoBulk,Rows.uptoBulkAll,Ey,CX]at *;omega
theorem W6 {fuel:Nat}{cs:IU Value}{x:HQ H×IU Fv}(h:Gj enc Tryz.prog W 0 (λ_=>true) held fuel 3 cs=some x):∃t:Int,zy (R1 (cW W).I (cW W).J W) cs (intD t).cells/\1<=Rows.uptoBulk x.1:=by obtain⟨a,rfl,rfl,_⟩:=EV (k:= .i64) Tryz.underlying3 h;exact⟨a,Gw (.int _ _) Ga,by simp[Rows.uptoBulk]⟩
theorem W7 {α:Type}(l:IU α):(l.map λ_=>1).sum=l.length:=by
 induction l with
 |nil=>rfl
 |cons a r ih=>simp only[Gb,DZ,F2,ih];omega
theorem MX {fuel:Nat}{cs:IU Value}{x:HQ H×IU Fv}(h:Gj enc Tryz.prog W 0 (λ_=>true) held fuel 74 cs=some x):∃t:Sl,zy (R1 (cW W).I (cW W).J W) cs (Sl.d t).cells/\t.name.length+1<=Rows.uptoBulk x.1:=by
 obtain⟨xs,n,rfl,rfl,hl,hx,hf⟩:=EE Tryz.underlying74 h;have hc:Tryz.prog.cellsOf 74=3:=by kernel_rfl
 have c3:Tryz.prog.cellsOf 3=1:=by kernel_rfl
 have c9:Tryz.prog.cellsOf 9=1:=by kernel_rfl
 rw[hc]at hl;match cs,hl with
 |[v0,v1,v2],_ =>
 match xs,hx with
 |[x0,x1,x2],_ =>
 have h0:Gj enc Tryz.prog W 0 (λ_=>true) held n 9 (HZ (Tryz.prog.cellsOf 9) [v0,v1,v2])=some x0:=hf 0 _ rfl;have h1:Gj enc Tryz.prog W 0 (λ_=>true) held n 3 (HZ (Tryz.prog.cellsOf 3) [v1,v2])=some x1:=hf 1 _ rfl;have h2:Gj enc Tryz.prog W 0 (λ_=>true) held n 3 (HZ (Tryz.prog.cellsOf 3) [v2])=some x2:=hf 2 _ rfl;simp only[c3,c9,FM,Em]at h0 h1 h2;obtain⟨a0,e0,f0,_⟩:=Dc Tryz.underlying9 h0;obtain⟨a1,e1,f1,_⟩:=EV (k:= .i64) Tryz.underlying3 h1;obtain⟨a2,e2,f2,_⟩:=EV (k:= .i64) Tryz.underlying3 h2;simp only[EP,and_true]at e0 e1 e2;subst e0 e1 e2 f0 f1 f2;refine⟨⟨a0.data.toList,a1,a2⟩,?_,?_⟩
 ·exact(Gw (by rw[wi];exact .str _) (Gw (.int _ _) (Gw (.int _ _) Ga)))
 ·simp only[Gb,FQ,Rows.uptoBulk,Rows.uptoBulkAll,Ey,CX,W7]at *;omega
theorem MW {fuel:Nat}{cs:IU Value}{x:HQ H×IU Fv}(h:Gj enc Tryz.prog W 0 (λ_=>true) held fuel 76 cs=some x):∃t:Rm,zy (R1 (cW W).I (cW W).J W) cs (Rm.d t).cells/\t.name.length+t.shut.length+1<=Rows.uptoBulk x.1:=by
 obtain⟨xs,n,rfl,rfl,hl,hx,hf⟩:=EE Tryz.underlying76 h;have hc:Tryz.prog.cellsOf 76=4:=by kernel_rfl
 have c3:Tryz.prog.cellsOf 3=1:=by kernel_rfl
 have c9:Tryz.prog.cellsOf 9=1:=by kernel_rfl
 have c30:Tryz.prog.cellsOf 30=1:=by kernel_rfl
 have e3:Tryz.prog.cellsOf 3=1:=by kernel_rfl
 rw[hc]at hl;match cs,hl with
 |[v0,v1,v2,v3],_ =>
 match xs,hx with
 |[x0,x1,x2,x3],_ =>
 have h0:Gj enc Tryz.prog W 0 (λ_=>true) held n 9 (HZ (Tryz.prog.cellsOf 9) [v0,v1,v2,v3])=some x0:=hf 0 _ rfl;have h1:Gj enc Tryz.prog W 0 (λ_=>true) held n 3 (HZ (Tryz.prog.cellsOf 3) [v1,v2,v3])=some x1:=hf 1 _ rfl;have h2:Gj enc Tryz.prog W 0 (λ_=>true) held n 3 (HZ (Tryz.prog.cellsOf 3) [v2,v3])=some x2:=hf 2 _ rfl;have h3:Gj enc Tryz.prog W 0 (λ_=>true) held n 30 (HZ (Tryz.prog.cellsOf 30) [v3])=some x3:=hf 3 _ rfl;simp only[c3,c9,c30,FM,Em]at h0 h1 h2 h3;obtain⟨a0,e0,f0,_⟩:=Dc Tryz.underlying9 h0;obtain⟨a1,e1,f1,_⟩:=EV (k:= .i64) Tryz.underlying3 h1;obtain⟨a2,e2,f2,_⟩:=EV (k:= .i64) Tryz.underlying3 h2;obtain⟨l3,w3,e3,r3,b3⟩:=yM intD (λ_=>1) (by decide) (λ_=>rfl) Tryz.underlying30 e3 (λ_ _ _ _ h=>W6 h) h3;simp only[EP,and_true]at e0 e1 e2 e3;subst e0 e1 e2 e3 f0 f1 f2;refine⟨⟨a0.data.toList,a1,a2,l3⟩,?_,?_⟩
 ·exact(Gw (by rw[wi];exact .str _) (Gw (.int _ _) (Gw (.int _ _) (Gw r3 Ga))))
 ·simp only[Gb,FQ,Rows.uptoBulk,Rows.uptoBulkAll,Ey,CX,W7]at *;omega
theorem MV {fuel:Nat}{cs:IU Value}{x:HQ H×IU Fv}(h:Gj enc Tryz.prog W 0 (λ_=>true) held fuel 133 cs=some x):∃t:Pe,zy (R1 (cW W).I (cW W).J W) cs (Pe.d t).cells/\t.name.length+t.away.length+1<=Rows.uptoBulk x.1:=by
 obtain⟨xs,n,rfl,rfl,hl,hx,hf⟩:=EE Tryz.underlying133 h;have hc:Tryz.prog.cellsOf 133=2:=by kernel_rfl
 have c9:Tryz.prog.cellsOf 9=1:=by kernel_rfl
 have c30:Tryz.prog.cellsOf 30=1:=by kernel_rfl
 have e3:Tryz.prog.cellsOf 3=1:=by kernel_rfl
 rw[hc]at hl;match cs,hl with
 |[v0,v1],_ =>
 match xs,hx with
 |[x0,x1],_ =>
 have h0:Gj enc Tryz.prog W 0 (λ_=>true) held n 9 (HZ (Tryz.prog.cellsOf 9) [v0,v1])=some x0:=hf 0 _ rfl;have h1:Gj enc Tryz.prog W 0 (λ_=>true) held n 30 (HZ (Tryz.prog.cellsOf 30) [v1])=some x1:=hf 1 _ rfl;simp only[c9,c30,FM,Em]at h0 h1;obtain⟨a0,e0,f0,_⟩:=Dc Tryz.underlying9 h0;obtain⟨l1,w1,e1,r1,b1⟩:=yM intD (λ_=>1) (by decide) (λ_=>rfl) Tryz.underlying30 e3 (λ_ _ _ _ h=>W6 h) h1;simp only[EP,and_true]at e0 e1;subst e0 e1 f0;refine⟨⟨a0.data.toList,l1⟩,?_,?_⟩
 ·exact(Gw (by rw[wi];exact .str _) (Gw r1 Ga))
 ·simp only[Gb,FQ,Rows.uptoBulk,Rows.uptoBulkAll,Ey,CX,W7]at *;omega
theorem MU {fuel:Nat}{cs:IU Value}{x:HQ H×IU Fv}(h:Gj enc Tryz.prog W 0 (λ_=>true) held fuel 136 cs=some x):∃t:Gr,zy (R1 (cW W).I (cW W).J W) cs (Gr.d t).cells/\t.name.length+1<=Rows.uptoBulk x.1:=by
 obtain⟨xs,n,rfl,rfl,hl,hx,hf⟩:=EE Tryz.underlying136 h;have hc:Tryz.prog.cellsOf 136=2:=by kernel_rfl
 have c3:Tryz.prog.cellsOf 3=1:=by kernel_rfl
 have c9:Tryz.prog.cellsOf 9=1:=by kernel_rfl
 rw[hc]at hl;match cs,hl with
 |[v0,v1],_ =>
 match xs,hx with
 |[x0,x1],_ =>
 have h0:Gj enc Tryz.prog W 0 (λ_=>true) held n 9 (HZ (Tryz.prog.cellsOf 9) [v0,v1])=some x0:=hf 0 _ rfl;have h1:Gj enc Tryz.prog W 0 (λ_=>true) held n 3 (HZ (Tryz.prog.cellsOf 3) [v1])=some x1:=hf 1 _ rfl;simp only[c3,c9,FM,Em]at h0 h1;obtain⟨a0,e0,f0,_⟩:=Dc Tryz.underlying9 h0;obtain⟨a1,e1,f1,_⟩:=EV (k:= .i64) Tryz.underlying3 h1;simp only[EP,and_true]at e0 e1;subst e0 e1 f0 f1;refine⟨⟨a0.data.toList,a1⟩,?_,?_⟩
 ·exact(Gw (by rw[wi];exact .str _) (Gw (.int _ _) Ga))
 ·simp only[Gb,FQ,Rows.uptoBulk,Rows.uptoBulkAll,Ey,CX,W7]at *;omega
theorem MT {fuel:Nat}{cs:IU Value}{x:HQ H×IU Fv}(h:Gj enc Tryz.prog W 0 (λ_=>true) held fuel 78 cs=some x):∃t:Le,zy (R1 (cW W).I (cW W).J W) cs (Le.d t).cells/\t.name.length+t.who.length+t.groups.length+1<=Rows.uptoBulk x.1:=by
 obtain⟨xs,n,rfl,rfl,hl,hx,hf⟩:=EE Tryz.underlying78 h;have hc:Tryz.prog.cellsOf 78=3:=by kernel_rfl
 have c9:Tryz.prog.cellsOf 9=1:=by kernel_rfl
 have c30:Tryz.prog.cellsOf 30=1:=by kernel_rfl
 have e3:Tryz.prog.cellsOf 3=1:=by kernel_rfl
 rw[hc]at hl;match cs,hl with
 |[v0,v1,v2],_ =>
 match xs,hx with
 |[x0,x1,x2],_ =>
 have h0:Gj enc Tryz.prog W 0 (λ_=>true) held n 9 (HZ (Tryz.prog.cellsOf 9) [v0,v1,v2])=some x0:=hf 0 _ rfl;have h1:Gj enc Tryz.prog W 0 (λ_=>true) held n 30 (HZ (Tryz.prog.cellsOf 30) [v1,v2])=some x1:=hf 1 _ rfl;have h2:Gj enc Tryz.prog W 0 (λ_=>true) held n 30 (HZ (Tryz.prog.cellsOf 30) [v2])=some x2:=hf 2 _ rfl;simp only[c9,c30,FM,Em]at h0 h1 h2;obtain⟨a0,e0,f0,_⟩:=Dc Tryz.underlying9 h0;obtain⟨l1,w1,e1,r1,b1⟩:=yM intD (λ_=>1) (by decide) (λ_=>rfl) Tryz.underlying30 e3 (λ_ _ _ _ h=>W6 h) h1;obtain⟨l2,w2,e2,r2,b2⟩:=yM intD (λ_=>1) (by decide) (λ_=>rfl) Tryz.underlying30 e3 (λ_ _ _ _ h=>W6 h) h2;simp only[EP,and_true]at e0 e1 e2;subst e0 e1 e2 f0;refine⟨⟨a0.data.toList,l1,l2⟩,?_,?_⟩
 ·exact(Gw (by rw[wi];exact .str _) (Gw r1 (Gw r2 Ga)))
 ·simp only[Gb,FQ,Rows.uptoBulk,Rows.uptoBulkAll,Ey,CX,W7]at *;omega
theorem MS {fuel:Nat}{cs:IU Value}{x:HQ H×IU Fv}(h:Gj enc Tryz.prog W 0 (λ_=>true) held fuel 48 cs=some x):∃t:Pl,zy (R1 (cW W).I (cW W).J W) cs (Pl.d t).cells/\1<=Rows.uptoBulk x.1:=by
 obtain⟨xs,n,rfl,rfl,hl,hx,hf⟩:=EE Tryz.underlying48 h;have hc:Tryz.prog.cellsOf 48=2:=by kernel_rfl
 have c3:Tryz.prog.cellsOf 3=1:=by kernel_rfl
 rw[hc]at hl;match cs,hl with
 |[v0,v1],_ =>
 match xs,hx with
 |[x0,x1],_ =>
 have h0:Gj enc Tryz.prog W 0 (λ_=>true) held n 3 (HZ (Tryz.prog.cellsOf 3) [v0,v1])=some x0:=hf 0 _ rfl;have h1:Gj enc Tryz.prog W 0 (λ_=>true) held n 3 (HZ (Tryz.prog.cellsOf 3) [v1])=some x1:=hf 1 _ rfl;simp only[c3,FM,Em]at h0 h1;obtain⟨a0,e0,f0,_⟩:=EV (k:= .i64) Tryz.underlying3 h0;obtain⟨a1,e1,f1,_⟩:=EV (k:= .i64) Tryz.underlying3 h1;simp only[EP,and_true]at e0 e1;subst e0 e1 f0 f1;refine⟨⟨a0,a1⟩,?_,?_⟩
 ·exact(Gw (.int _ _) (Gw (.int _ _) Ga))
 ·simp only[Gb,FQ,Rows.uptoBulk,Rows.uptoBulkAll,Ey,CX,W7]at *;omega
def Sc.wb (s:Sc):Nat:=(s.slots.map λt=>t.name.length+1).sum+(s.rooms.map λt=>t.name.length+t.shut.length+1).sum+(s.people.map λt=>t.name.length+t.away.length+1).sum+(s.groups.map λt=>t.name.length+1).sum+(s.lessons.map λt=>t.name.length+t.who.length+t.groups.length+1).sum
theorem MR {fuel:Nat}{cs:IU Value}{x:HQ H×IU Fv}(h:Gj enc Tryz.prog W 0 (λ_=>true) held fuel 28 cs=some x):∃t:Sc,zy (R1 (cW W).I (cW W).J W) cs (Sc.d t).cells/\t.wb+1<=Rows.uptoBulk x.1:=by
 obtain⟨xs,n,rfl,rfl,hl,hx,hf⟩:=EE Tryz.underlying28 h;have hc:Tryz.prog.cellsOf 28=5:=by kernel_rfl
 have c22:Tryz.prog.cellsOf 22=1:=by kernel_rfl
 have c23:Tryz.prog.cellsOf 23=1:=by kernel_rfl
 have c24:Tryz.prog.cellsOf 24=1:=by kernel_rfl
 have c25:Tryz.prog.cellsOf 25=1:=by kernel_rfl
 have c26:Tryz.prog.cellsOf 26=1:=by kernel_rfl
 have e74:Tryz.prog.cellsOf 74=3:=by kernel_rfl
 have e76:Tryz.prog.cellsOf 76=4:=by kernel_rfl
 have e133:Tryz.prog.cellsOf 133=2:=by kernel_rfl
 have e136:Tryz.prog.cellsOf 136=2:=by kernel_rfl
 have e78:Tryz.prog.cellsOf 78=3:=by kernel_rfl
 rw[hc]at hl;match cs,hl with
 |[v0,v1,v2,v3,v4],_ =>
 match xs,hx with
 |[x0,x1,x2,x3,x4],_ =>
 have h0:Gj enc Tryz.prog W 0 (λ_=>true) held n 22 (HZ (Tryz.prog.cellsOf 22) [v0,v1,v2,v3,v4])=some x0:=hf 0 _ rfl;have h1:Gj enc Tryz.prog W 0 (λ_=>true) held n 23 (HZ (Tryz.prog.cellsOf 23) [v1,v2,v3,v4])=some x1:=hf 1 _ rfl;have h2:Gj enc Tryz.prog W 0 (λ_=>true) held n 24 (HZ (Tryz.prog.cellsOf 24) [v2,v3,v4])=some x2:=hf 2 _ rfl;have h3:Gj enc Tryz.prog W 0 (λ_=>true) held n 25 (HZ (Tryz.prog.cellsOf 25) [v3,v4])=some x3:=hf 3 _ rfl;have h4:Gj enc Tryz.prog W 0 (λ_=>true) held n 26 (HZ (Tryz.prog.cellsOf 26) [v4])=some x4:=hf 4 _ rfl;simp only[c22,c23,c24,c25,c26,FM,Em]at h0 h1 h2 h3 h4;obtain⟨l0,w0,e0,r0,b0⟩:=yM Sl.d (λt=>t.name.length+1) (by decide) (λ_=>rfl) Tryz.underlying22 e74 (λ_ _ _ _ h=>MX h) h0;obtain⟨l1,w1,e1,r1,b1⟩:=yM Rm.d (λt=>t.name.length+t.shut.length+1) (by decide) (λ_=>rfl) Tryz.underlying23 e76 (λ_ _ _ _ h=>MW h) h1;obtain⟨l2,w2,e2,r2,b2⟩:=yM Pe.d (λt=>t.name.length+t.away.length+1) (by decide) (λ_=>rfl) Tryz.underlying24 e133 (λ_ _ _ _ h=>MV h) h2;obtain⟨l3,w3,e3,r3,b3⟩:=yM Gr.d (λt=>t.name.length+1) (by decide) (λ_=>rfl) Tryz.underlying25 e136 (λ_ _ _ _ h=>MU h) h3;obtain⟨l4,w4,e4,r4,b4⟩:=yM Le.d (λt=>t.name.length+t.who.length+t.groups.length+1) (by decide) (λ_=>rfl) Tryz.underlying26 e78 (λ_ _ _ _ h=>MT h) h4;simp only[EP,and_true]at e0 e1 e2 e3 e4;subst e0 e1 e2 e3 e4;refine⟨⟨l0,l1,l2,l3,l4⟩,?_,?_⟩
 ·exact(Gw r0 (Gw r1 (Gw r2 (Gw r3 (Gw r4 Ga)))))
 ·unfold Sc.wb;simp only[Gb,FQ,Rows.uptoBulk,Rows.uptoBulkAll]at *;omega
def Pn.wb (p:Pn):Nat:=p.sc.wb+(p.rules.map λr=>r.wt+1).sum+p.frozen.length
theorem MQ {fuel:Nat}{cs:IU Value}{x:HQ H×IU Fv}(h:Gj enc Tryz.prog W 0 (λ_=>true) held fuel 32 cs=some x):∃t:Pn,zy (R1 (cW W).I (cW W).J W) cs (Pn.d t).cells/\t.wb+1<=Rows.uptoBulk x.1:=by
 obtain⟨xs,n,rfl,rfl,hl,hx,hf⟩:=EE Tryz.underlying32 h;have hc:Tryz.prog.cellsOf 32=7:=by kernel_rfl
 have c28:Tryz.prog.cellsOf 28=5:=by kernel_rfl
 have c29:Tryz.prog.cellsOf 29=1:=by kernel_rfl
 have c30:Tryz.prog.cellsOf 30=1:=by kernel_rfl
 have e89:Tryz.prog.cellsOf 89=10:=by kernel_rfl
 have e3:Tryz.prog.cellsOf 3=1:=by kernel_rfl
 rw[hc]at hl;match cs,hl with
 |[v0,v1,v2,v3,v4,v5,v6],_ =>
 match xs,hx with
 |[x0,x1,x2],_ =>
 have h0:Gj enc Tryz.prog W 0 (λ_=>true) held n 28 (HZ (Tryz.prog.cellsOf 28) [v0,v1,v2,v3,v4,v5,v6])=some x0:=hf 0 _ rfl;have h1:Gj enc Tryz.prog W 0 (λ_=>true) held n 29 (HZ (Tryz.prog.cellsOf 29) [v5,v6])=some x1:=hf 1 _ rfl;have h2:Gj enc Tryz.prog W 0 (λ_=>true) held n 30 (HZ (Tryz.prog.cellsOf 30) [v6])=some x2:=hf 2 _ rfl;simp only[c28,c29,c30,FM,Em]at h0 h1 h2;obtain⟨a0,r0,b0⟩:=MR h0;obtain⟨l1,w1,e1,r1,b1⟩:=yM Ru.d (λr=>r.wt+1) (by decide) (λ_=>rfl) Tryz.underlying29 e89 (λ_ _ _ _ h=>MY h) h1;obtain⟨l2,w2,e2,r2,b2⟩:=yM intD (λ_=>1) (by decide) (λ_=>rfl) Tryz.underlying30 e3 (λ_ _ _ _ h=>W6 h) h2;simp only[EP,and_true]at e1 e2;subst e1 e2;refine⟨⟨a0,l1,l2⟩,?_,?_⟩
 ·exact(zy.append r0 (Gw r1 (Gw r2 Ga)))
 ·unfold Pn.wb;rw[W7]at *;simp only[Gb,FQ,Rows.uptoBulk,Rows.uptoBulkAll]at *;omega
theorem MP {fuel:Nat}{cs:IU Value}{x:HQ H×IU Fv}(h:Gj enc Tryz.prog W 0 (λ_=>true) held fuel 35 cs=some x):∃t:IU Pl,zy (R1 (cW W).I (cW W).J W) cs (xl t).cells/\t.length+1<=Rows.uptoBulk x.1:=by
 obtain⟨xs,n,rfl,rfl,hl,hx,hf⟩:=EE Tryz.underlying35 h;have hc:Tryz.prog.cellsOf 35=1:=by kernel_rfl
 have c33:Tryz.prog.cellsOf 33=1:=by kernel_rfl
 have e48:Tryz.prog.cellsOf 48=2:=by kernel_rfl
 rw[hc]at hl;match cs,hl with
 |[v0],_ =>
 match xs,hx with
 |[x0],_ =>
 have h0:Gj enc Tryz.prog W 0 (λ_=>true) held n 33 (HZ (Tryz.prog.cellsOf 33) [v0])=some x0:=hf 0 _ rfl;simp only[c33,FM,Em]at h0;obtain⟨l0,w0,e0,r0,b0⟩:=yM Pl.d (λ_=>1) (by decide) (λ_=>rfl) Tryz.underlying33 e48 (λ_ _ _ _ h=>MS h) h0;simp only[EP,and_true]at e0;subst e0;refine⟨l0,?_,?_⟩
 ·exact(Gw r0 Ga)
 ·rw[W7]at *;simp only[Gb,FQ,Rows.uptoBulk,Rows.uptoBulkAll]at *;omega
theorem qg {α:Type}{w:α->Nat}{l:IU α}{x:α}(h:x∈l):w x<=(l.map w).sum:=by
 induction l with
 |nil=>cases h
 |cons a r ih =>
  simp only[Gb,DZ];rcases F5.1 h with rfl|h
  ·omega
  ·have:=ih h;omega
theorem eE {α:Type}{w:α->Nat}(hw:∀x,1<=w x) (l:IU α):l.length<=(l.map w).sum:=by
 induction l with
 |nil=>simp
 |cons a r ih =>
  simp only[Gb,DZ,F2];have:=hw a;omega
theorem NJ {s:Sc}(h:s.wb<1099511627776):s.Fits:=by
 unfold Sc.wb at h;have l1:=eE (w:=λt:Sl=>t.name.length+1) (λ_=>by omega) s.slots;have l2:=eE (w:=λt:Rm=>t.name.length+t.shut.length+1) (λ_=>by omega) s.rooms;have l3:=eE (w:=λt:Pe=>t.name.length+t.away.length+1) (λ_=>by omega) s.people;have l4:=eE (w:=λt:Gr=>t.name.length+1) (λ_=>by omega) s.groups;have l5:=eE (w:=λt:Le=>t.name.length+t.who.length+t.groups.length+1) (λ_=>by omega) s.lessons;refine⟨by omega,by omega,by omega,by omega,by omega,λx hx=>?_,λx hx=>?_,λx hx=>?_,λx hx=>?_,λx hx=>?_,λx hx=>?_,λx hx=>?_,λx hx=>?_,λx hx=>?_⟩
 ·have:=qg (w:=λt:Rm=>t.name.length+t.shut.length+1) hx;omega
 ·have:=qg (w:=λt:Pe=>t.name.length+t.away.length+1) hx;omega
 ·have:=qg (w:=λt:Le=>t.name.length+t.who.length+t.groups.length+1) hx;omega
 ·have:=qg (w:=λt:Le=>t.name.length+t.who.length+t.groups.length+1) hx;omega
 ·have:=qg (w:=λt:Sl=>t.name.length+1) hx;omega
 ·have:=qg (w:=λt:Rm=>t.name.length+t.shut.length+1) hx;omega
 ·have:=qg (w:=λt:Pe=>t.name.length+t.away.length+1) hx;omega
 ·have:=qg (w:=λt:Gr=>t.name.length+1) hx;omega
 ·have:=qg (w:=λt:Le=>t.name.length+t.who.length+t.groups.length+1) hx;omega
theorem IZ (l:IU Ru):(l.map λr=>r.wt+1).sum=rwts l+l.length:=by
 induction l with
 |nil=>rfl
 |cons t r ih=>simp only[Gb,DZ,rwts,ih,F2];omega
theorem NI {p:Pn}(h:p.wb<1099511627776):p.Fits:=by unfold Pn.wb at h;rw[IZ]at h;exact⟨NJ (by omega),by omega,by omega,by omega⟩
end
end
end Go.Fo
namespace Go.Fo
open Go Go.Sx Go.Proofs
open Go.WideElems
section
open Go.ChangeMaps (mem_insert_iff)
def litD:D2->D
 |.int k n=>.int k n
 |.string s=>.str s
 |.bool b=>.bool b
 |_=>.bool false
def b7 {H:Type}:HQ H->D2
 |.lit l=>l
 |_=>.bool false
def conv {H:Type}(p:D2×HQ H):D×D:=(litD p.1,litD (b7 p.2))
theorem jt {H:Type}{y:D2×HQ H}:∀{l:IU (D2×HQ H)},y∈l.foldr HQ.insert []↔y∈l
 |[]=>by simp
 |a::l=>by rw[IU.foldr_cons,mem_insert_iff,jt];simp
section
variable {H:Type}{enc:TypeId×Value->H}{P:HP}{W:H5}{held:Bool}
theorem ZE {t k e:TypeId}(ht:P.underlying t=some (.map k e)) (hkey:∀v l,keyOf P k v=some l->R1 (cW W).I (cW W).J W v (litD l)) (hel:∀n v y,elemAt enc P W 0 (λ_=>true) held n e v=some y->R1 (cW W).I (cW W).J W v (litD (b7 y.1))) {fuel:Nat}{cs:IU Value}{L:IU (D2×HQ H)}{p:IU Fv}(h:Gj enc P W 0 (λ_=>true) held fuel t cs=some (.map L,p)):∃(es:IU (D×D)) (v:Value),cs=[v]/\R1 (cW W).I (cW W).J W v (.gmap es)/\∀kv,kv∈es↔kv∈L.map conv:=by
 rcases open_map ht h with⟨_,hx⟩|⟨b,ents,clk,n,_,rfl,hb,_,F,hx⟩
 ·cases hx
 simp only[Dm,zwx]at hx;refine⟨ents.toList.map λx=>conv (rg P k (elemAt enc P W 0 (λ_=>true) held n e) x),_,rfl,?_,λkv=>?_⟩
 ·have key:∀(i:Nat) kv,(ents.toList.map λx=>conv (rg P k (elemAt enc P W 0 (λ_=>true) held n e) x))[i]? = some kv->R1 (cW W).I (cW W).J W (ents.getD i default).key kv.1/\R1 (cW W).I (cW W).J W (ents.getD i default).val kv.2:=by
   intro i kv hi;rw[G5,Dv]at hi;obtain⟨x,hx1,rfl⟩:=hi;have hg:ents.getD i default=x:=by rw[Du]at hx1;simp[FN,hx1]
   obtain⟨y,hy⟩:=F.reads x (GS hx1);rw[hg,rg_of hy];obtain⟨z,hz,hz2⟩:=rd_val hy;refine⟨hkey _ _ (rd_key hy),?_⟩;show R1 _ _ W x.val (litD (b7 y.2));rw[hz2];exact hel n _ _ hz
  exact .gmap b ents clk _ ⟨ents,clk,hb⟩ hb (by simp) (λi kv h=>(key i kv h).1) (λi kv h=>(key i kv h).2)
 ·rw[hx.1];simp only[Gd,jt];constructor
  ·rintro⟨x,hx,rfl⟩;exact⟨_,⟨x,hx,rfl⟩,rfl⟩
  ·rintro⟨_,⟨x,hx,rfl⟩,rfl⟩;exact⟨x,hx,rfl⟩
theorem ZD {k:TypeId}{q:IF}(hk:P.underlying k=some (.int q)) (v:Value) (l:D2) (h:keyOf P k v=some l):R1 (cW W).I (cW W).J W v (litD l):=by
 rw[keyOf_int hk]at h;unfold mapKey at h;rw[hk]at h;split at h<;>simp_all
 obtain⟨⟨rfl,_⟩,rfl⟩:=h;exact .int _ _
theorem ZC {k:TypeId}(hk:P.underlying k=some .string) (v:Value) (l:D2) (h:keyOf P k v=some l):R1 (cW W).I (cW W).J W v (litD l):=by
 rw[keyOf_string hk]at h;unfold mapKey at h;rw[hk]at h;split at h<;>simp_all
 obtain⟨_,rfl⟩:=h;rw[wi];exact .str _
theorem MO {e:TypeId}{q:IF}(he:P.underlying e=some (.int q)) (n:Nat) (v:Value) (y:HQ H×IU Fv) (h:elemAt enc P W 0 (λ_=>true) held n e v=some y):R1 (cW W).I (cW W).J W v (litD (b7 y.1)):=by obtain⟨a,rfl,rfl,_⟩:=elemAt_int he h;exact .int _ _
theorem NH {e:TypeId}(he:P.underlying e=some .bool) (n:Nat) (v:Value) (y:HQ H×IU Fv) (h:elemAt enc P W 0 (λ_=>true) held n e v=some y):R1 (cW W).I (cW W).J W v (litD (b7 y.1)):=by obtain⟨a,rfl,rfl⟩:=elemAt_bool he h;exact .bool _
theorem MN {e:TypeId}(he:P.underlying e=some .string) (n:Nat) (v:Value) (y:HQ H×IU Fv) (h:elemAt enc P W 0 (λ_=>true) held n e v=some y):R1 (cW W).I (cW W).J W v (litD (b7 y.1)):=by
 unfold elemAt at h;split at h
 ·rename_i hf;obtain⟨s,hc,hz,_⟩:=Dc he h;cases v<;>simp[AL,he,Value.cells]at hf hc
  subst hc;rw[hz,wi];exact .str _
 ·cases h
theorem pH {laid:IU (DA×HQ FI)}:∀{ps:IU Fv},HQ.LaidVars P W laid ps->∀{n d},(n,d)∈laid->∃g t cs fuel p,P.globalNamed n=some g/\(P.globals[g]?).map (·.type)=some t/\W.var? P n=some cs/\Gj (λ_=>()) P W 0 (λ_=>true) false fuel t cs.toList=some (d,p):=by
 induction laid with
 |nil=>intro ps _ n d h;cases h
 |cons x r ih =>
  obtain⟨n0,d0⟩:=x;rintro ps ⟨g,t,cs,fuel,p,q,h1,h2,h3,h4,h5,_⟩ n d hm;rcases F5.1 hm with h|h
  ·cases h;exact⟨g,t,cs,fuel,p,h1,h2,h3,h4⟩
  ·exact ih h5 h
end
theorem tD {es L:IU (D×D)}(k:D) (h:∀kv,kv∈es↔kv∈L) (hb:∀kv∈L,∀kv'∈L,beqD k kv.1=true->beqD k kv'.1=true->kv=kv'):zT es k=zT L k:=by
 unfold zT;cases h1:es.find? λkv=>beqD k kv.1 with
 |none =>
  rw[zy3]at h1;have:L.find? (λkv=>beqD k kv.1)=none:=by rw[zy3];exact λx hx=>h1 x ((h x).2 hx)
  rw[this]
 |some kv =>
  have hm:=Au h1;have hp:=zyq h1;cases h2:L.find? λkv=>beqD k kv.1 with
  |none =>
   rw[zy3]at h2;exact Hu hp (h2 kv ((h kv).1 hm))
  |some kv' =>
   have hp':=zyq h2;rw[hb kv ((h kv).1 hm) kv' (Au h2) hp hp']
theorem jK.inj_fst {α β:Type}:∀{L:IU (α×β)},(L.map Hw).Nodup->∀{p q},p∈L->q∈L->p.1=q.1->p=q
 |[],_,_,_,h,_,_=>by cases h
 |a::L,hn,p,q,hp,hq,he=>by
  rw[Gb,IU.nodup_cons]at hn;rcases F5.1 hp with rfl|hp'<;>rcases F5.1 hq with rfl|hq'
  ·rfl
  ·exact Hu (he ▸ zxM hq') hn.1
  ·exact Hu (he ▸ zxM hp') hn.1
  ·exact jK.inj_fst hn.2 hp' hq' he
theorem jK (L:IU (Int×Int)) (hL:(L.map Hw).Nodup) {es:IU (D×D)}(h:∀kv,kv∈es↔kv∈L.map λp=>(IP .i64 p.1,IP .i64 p.2)) (k:Int):zT es (.int .i64 k)=(L.lookup k).map (.int .i64):=by
 rw[tD _ h ?_]
 ·clear h hL;induction L with
  |nil=>rfl
  |cons p r ih =>
   obtain⟨a,b⟩:=p;unfold zT at ih ⊢;rw[Gb,EQ,Ah];simp only[beqD];cases hk:k==a with
   |true=>rfl
   |false=>exact ih
 ·intro kv h1 kv' h2 e1 e2;obtain⟨p,hp,rfl⟩:=Gd.1 h1;obtain⟨q,hq,rfl⟩:=Gd.1 h2;simp only[beqD,beq_iff_eq]at e1 e2;have:p=q:=jK.inj_fst hL hp hq (e1.symm.trans e2);rw[this]
theorem Ku (L:IU (IU UInt8×IU UInt8)) (hL:(L.map Hw).Nodup) {es:IU (D×D)}(h:∀kv,kv∈es↔kv∈L.map λp=>(HW p.1,HW p.2)) (k:IU UInt8):zT es (.str k)=(L.lookup k).map .str:=by
 rw[tD _ h ?_]
 ·clear h hL;induction L with
  |nil=>rfl
  |cons p r ih =>
   obtain⟨a,b⟩:=p;unfold zT at ih ⊢;rw[Gb,EQ,Ah];simp only[beqD];cases hk:k==a with
   |true=>rfl
   |false=>exact ih
 ·intro kv h1 kv' h2 e1 e2;obtain⟨p,hp,rfl⟩:=Gd.1 h1;obtain⟨q,hq,rfl⟩:=Gd.1 h2;simp only[beqD,beq_iff_eq]at e1 e2;have:p=q:=jK.inj_fst hL hp hq (e1.symm.trans e2);rw[this]
theorem Kt (L:IU (IU UInt8)) {es:IU (D×D)}(h:∀kv,kv∈es↔kv∈L.map λp=>(HW p,IL true)) (k:IU UInt8):zT es (.str k)=if L.contains k then some (.bool true)else none:=by
 rw[tD _ h ?_]
 ·clear h;induction L with
  |nil=>rfl
  |cons a r ih =>
   unfold zT at ih ⊢;rw[Gb,EQ,IU.contains_cons];simp only[beqD];cases hk:k==a with
   |true=>rfl
   |false=>exact ih
 ·intro kv h1 kv' h2 e1 e2;obtain⟨p,hp,rfl⟩:=Gd.1 h1;obtain⟨q,hq,rfl⟩:=Gd.1 h2;simp only[beqD,beq_iff_eq]at e1 e2;rw[←e1,←e2]
open Go.Proofs.YtfegegkkdfkllaaGreatDoor (Rows.laid_chalkline_formula_arity Rows.laid_chalkline_formula_signs Rows.laid_chalkline_formula_reserved Rows.laid_chalkline_types_asks Rows.laid_chalkline_types_takes Rows.laid_chalkline_eval_signs Rows.laid_chalkline_eval_atoms Rows.laid_chalkline_audit_kinds)
theorem u262:Tryz.prog.underlying 262=some (.map 3 3):=by kernel_rfl
theorem u263:Tryz.prog.underlying 263=some (.map 9 9):=by kernel_rfl
theorem u122:Tryz.prog.underlying 122=some (.map 9 4):=by kernel_rfl
theorem u4:Tryz.prog.underlying 4=some .bool:=by kernel_rfl
theorem u128:Tryz.prog.underlying 128=some (.array 2 3):=by kernel_rfl
theorem u267:Tryz.prog.underlying 267=some (.array 8 128):=by kernel_rfl
theorem u251:Tryz.prog.underlying 251=some (.array 9 128):=by kernel_rfl
theorem u211:Tryz.prog.underlying 211=some (.map 9 98):=by kernel_rfl
theorem u215:Tryz.prog.underlying 215=some (.map 3 213):=by kernel_rfl
theorem u91:Tryz.prog.underlying 91=some (.map 3 49):=by kernel_rfl
theorem c128:Tryz.prog.cellsOf 128=2:=by kernel_rfl
theorem c3:Tryz.prog.cellsOf 3=1:=by kernel_rfl
theorem oK {cs:IG Value}{v:Value}(h:cs.toList=[v]):cs[0]? = some v:=by rw[←Du,h];rfl
def keysOf:HQ FI->IU (IU UInt8)
 |.map L=>L.map λp=>match p.1 with|.string s=>s|_=>[]
 |_=>[]
def resK:IU (IU UInt8):=keysOf Rows.laid_chalkline_formula_reserved
theorem N1 (s:IU UInt8):s∈resK↔s∈words :=⟨(by decide +kernel:∀s∈resK,s∈words) s,(by decide +kernel:∀s∈words,s∈resK) s⟩
theorem pairs_get:∀{L:IU (Int×Int)}{j:Nat}{x:D},(vk L)[j]? = some x->∃p,L[j / 2]? = some p/\x = .int .i64 (if j % 2=0 then p.1 else p.2)
 |[],j,x,h=>by simp[vk]at h
 |p::r,0,x,h=>by simp[vk]at h;exact⟨p,rfl,h.symm⟩
 |p::r,1,x,h=>by simp[vk]at h;exact⟨p,rfl,h.symm⟩
 |p::r,j+2,x,h=>by
  have h':(vk r)[j]? = some x:=by simpa[vk]using h
  obtain⟨q,h1,h2⟩:=pairs_get h';have e1:(j+2) / 2=j / 2+1:=by omega
  have e2:(j+2) % 2=j % 2:=by omega
  exact⟨q,by rw[e1];simpa using h1,by rw[e2];exact h2⟩
theorem NG {cs:IU Value}{i:Nat}{v:Value}(h:(cs.drop i).take 1=[v]):cs[i]? = some v:=by have:=Gv (λl=>l[0]?) h;simpa[Fa]using this
section
variable {H:Type}{enc:TypeId×Value->H}{W:H5}{held:Bool}
theorem b8 {t:TypeId}{n fuel:Nat}{cs:IU Value}{L:IU (Int×Int)}{p:IU Fv}(ht:Tryz.prog.underlying t=some (.array n 128)) (hn:L.length=n) (h:Gj enc Tryz.prog W 0 (λ_=>true) held fuel t cs=some (.agg (L.map λq=>.agg [.lit (.int .i64 q.1),.lit (.int .i64 q.2)]),p)) {j:Nat}{x:D}(hx:(vk L)[j]? = some x):∃v,cs[j]? = some v/\R1 (cW W).I (cW W).J W v x:=by
 obtain⟨q,hq,rfl⟩:=pairs_get hx;obtain⟨xs,m,_,ex,_,hl,hel⟩:=zwz ht h;simp only[Dm,zww]at ex;have hlt:j / 2<n:=by
  rw[←hn];rcases G4 (j / 2) L.length with h' |h'
  ·exact h'
  ·rw[Gt h']at hq;cases hq
 have h1:=hel (j / 2) hlt;have hy:∃y,xs[j / 2]? = some y/\y.1 = .agg [.lit (.int .i64 q.1),.lit (.int .i64 q.2)]:=by
  have h2:=Gv (λl=>l[j / 2]?) ex.1;simp only[G5,hq,Fi]at h2;cases hxs:xs[j / 2]? with
  |none=>rw[hxs]at h2;cases h2
  |some y=>rw[hxs]at h2;exact⟨y,rfl,(Fl h2).symm⟩
 obtain⟨y,hy1,hy2⟩:=hy;rw[hy1,c128]at h1;obtain⟨y1,y2⟩:=y;simp only at hy2;subst hy2;obtain⟨ys,m2,_,ey,_,hl2,hel2⟩:=zwz u128 h1;simp only[Dm,zww]at ey;have key:∀r,r<2->∀z,[q.1,q.2][r]? = some z->cs[j / 2*2+r]? = some (.int .i64 z):=by
  intro r hr z hz;have h3:=hel2 r hr;have h4:=Gv (λl=>l[r]?) ey.1;simp only[G5]at h4;have h5:[(HQ.lit (.int .i64 q.1):HQ H),.lit (.int .i64 q.2)][r]? = some (.lit (.int .i64 z)):=by
   match r,hr,hz with
   |0,_,hz=>simp at hz;subst hz;rfl
   |1,_,hz=>simp at hz;subst hz;rfl
  rw[h5]at h4;cases hys:ys[r]? with
  |none=>rw[hys]at h4;cases h4
  |some u =>
   rw[hys,c3]at h3;rw[hys]at h4;obtain⟨u1,u2⟩:=u;simp only[Fi,Er]at h4;subst h4;obtain⟨a,e0,f0,_⟩:=EV (k:= .i64) Tryz.underlying3 h3;simp only[Dm,HQ.lit.injEq,D2.int.injEq]at f0;have h6:=NG e0;rw[Nat.mul_one,Fa,if_pos hr,IU.getElem?_drop]at h6;rw[h6,f0.1.2]
 rcases Nat.mod_two_eq_zero_or_one j with hm|hm
 ·have:=key 0 (by omega) q.1 rfl;rw[if_pos hm];exact⟨_,by rw[←this];congr 1;omega,.int _ _⟩
 ·have:=key 1 (by omega) q.2 rfl;rw[if_neg (by omega)];exact⟨_,by rw[←this];congr 1;omega,.int _ _⟩
end
theorem rT {es L:IU (D×D)}(q:D×D->Bool) (h:∀kv,kv∈es↔kv∈L) (hq:L.all q=true):es.all q=true:=by rw[IU.all_eq_true]at hq ⊢;exact λx hx=>hq x ((h x).1 hx)
def duE:IU (D×D):=duL.map λp=>(IP .i64 p.1,IP .i64 p.2)
theorem eD {P:HP}{W:H5}{t k e:TypeId}(ht:P.underlying t=some (.map k e)) (hkey:∀v l,keyOf P k v=some l->R1 (cW W).I (cW W).J W v (litD l)) {fuel:Nat}{cs:IU Value}{L:IU (D2×HQ (IU UInt8))}{p:IU Fv}(h:Gj (funcToken P) P W 0 (λ_=>true) true fuel t cs=some (.map L,p)) (el:HQ (IU UInt8)->Nat) (hel:∀x∈L,∀n v q,elemAt (funcToken P) P W 0 (λ_=>true) true n e v=some (x.2,q)->v = .func (.func (el x.2)) #[] #[]):∃(es:IU (D×D)) (v:Value),cs=[v]/\R1 (cW W).I (cW W).J W v (.gmap es)/\∀kv,kv∈es↔kv∈L.map λx=>(litD x.1,F3 (el x.2)):=by
 rcases open_map ht h with⟨_,hx⟩|⟨b,ents,clk,n,_,rfl,hb,_,F,hx⟩
 ·cases hx
 simp only[Dm,zwx]at hx;have hL:∀y,y∈L↔ ∃x∈ents.toList,rg P k (elemAt (funcToken P) P W 0 (λ_=>true) true n e) x=y:=by intro y;rw[hx.1,jt,Gd]
 refine⟨ents.toList.map λx=>(litD (rg P k (elemAt (funcToken P) P W 0 (λ_=>true) true n e) x).1,F3 (el (rg P k (elemAt (funcToken P) P W 0 (λ_=>true) true n e) x).2)),_,rfl,?_,λkv=>?_⟩
 ·have key:∀(i:Nat) kv,(ents.toList.map λx=>(litD (rg P k (elemAt (funcToken P) P W 0 (λ_=>true) true n e) x).1,F3 (el (rg P k (elemAt (funcToken P) P W 0 (λ_=>true) true n e) x).2)))[i]? = some kv->R1 (cW W).I (cW W).J W (ents.getD i default).key kv.1/\R1 (cW W).I (cW W).J W (ents.getD i default).val kv.2:=by
   intro i kv hi;rw[G5,Dv]at hi;obtain⟨x,hx1,rfl⟩:=hi;have hg:ents.getD i default=x:=by rw[Du]at hx1;simp[FN,hx1]
   have hm:=GS hx1;obtain⟨y,hy⟩:=F.reads x hm;have hyL:=(hL y).2 ⟨x,hm,rg_of hy⟩;rw[hg,rg_of hy];obtain⟨z,hz,hz2⟩:=rd_val hy;refine⟨hkey _ _ (rd_key hy),?_⟩;have hv:=hel y hyL n x.val z.2 (by rw[hz2];exact hz);show R1 _ _ W x.val (.fn (el y.2));rw[hv];exact .fn _
  exact .gmap b ents clk _ ⟨ents,clk,hb⟩ hb (by simp) (λi kv h=>(key i kv h).1) (λi kv h=>(key i kv h).2)
 ·simp only[Gd];constructor
  ·rintro⟨x,hx,rfl⟩;exact⟨_,(hL _).2 ⟨x,hx,rfl⟩,rfl⟩
  ·rintro⟨y,hy,rfl⟩;obtain⟨x,hx,rfl⟩:=(hL y).1 hy;exact⟨x,hx,rfl⟩
def RL (tab:IU (IU UInt8×Nat)):HQ (IU UInt8)->Nat
 |.held s=>(tab.lookup s).getD 0
 |_=>0
theorem iA (L:IU (Int×Nat)) (hL:(L.map Hw).Nodup) {es:IU (D×D)}(h:∀kv,kv∈es↔kv∈L.map λp=>(IP .i64 p.1,F3 p.2)) (k:Int):zT es (.int .i64 k)=(L.lookup k).map .fn:=by
 rw[tD _ h ?_]
 ·clear h hL;induction L with
  |nil=>rfl
  |cons p r ih =>
   obtain⟨a,b⟩:=p;unfold zT at ih ⊢;rw[Gb,EQ,Ah];simp only[beqD];cases hk:k==a with
   |true=>rfl
   |false=>exact ih
 ·intro kv h1 kv' h2 e1 e2;obtain⟨p,hp,rfl⟩:=Gd.1 h1;obtain⟨q,hq,rfl⟩:=Gd.1 h2;simp only[beqD,beq_iff_eq]at e1 e2;have:p=q:=jK.inj_fst hL hp hq (e1.symm.trans e2);rw[this]
theorem MM (L:IU (IU UInt8×Nat)) (hL:(L.map Hw).Nodup) {es:IU (D×D)}(h:∀kv,kv∈es↔kv∈L.map λp=>(HW p.1,F3 p.2)) (k:IU UInt8):zT es (.str k)=(L.lookup k).map .fn:=by
 rw[tD _ h ?_]
 ·clear h hL;induction L with
  |nil=>rfl
  |cons p r ih =>
   obtain⟨a,b⟩:=p;unfold zT at ih ⊢;rw[Gb,EQ,Ah];simp only[beqD];cases hk:k==a with
   |true=>rfl
   |false=>exact ih
 ·intro kv h1 kv' h2 e1 e2;obtain⟨p,hp,rfl⟩:=Gd.1 h1;obtain⟨q,hq,rfl⟩:=Gd.1 h2;simp only[beqD,beq_iff_eq]at e1 e2;have:p=q:=jK.inj_fst hL hp hq (e1.symm.trans e2);rw[this]
def esT:IU (IU UInt8×Nat):=[([99,104,97,108,107,108,105,110,101,47,101,118,97,108,46,115,105,103,110,115,36,50],312),([99,104,97,108,107,108,105,110,101,47,101,118,97,108,46,115,105,103,110,115,36,51],313),([99,104,97,108,107,108,105,110,101,47,101,118,97,108,46,115,105,103,110,115,36,52],314),([99,104,97,108,107,108,105,110,101,47,101,118,97,108,46,115,105,103,110,115,36,49],311),([99,104,97,108,107,108,105,110,101,47,101,118,97,108,46,115,105,103,110,115,36,53],315),([99,104,97,108,107,108,105,110,101,47,101,118,97,108,46,115,105,103,110,115,36,54],316)]
def esW:IU (D2×HQ (IU UInt8)):=[(.string [33,61],.held [99,104,97,108,107,108,105,110,101,47,101,118,97,108,46,115,105,103,110,115,36,50]),(.string [60],.held [99,104,97,108,107,108,105,110,101,47,101,118,97,108,46,115,105,103,110,115,36,51]),(.string [60,61],.held [99,104,97,108,107,108,105,110,101,47,101,118,97,108,46,115,105,103,110,115,36,52]),(.string [61],.held [99,104,97,108,107,108,105,110,101,47,101,118,97,108,46,115,105,103,110,115,36,49]),(.string [62],.held [99,104,97,108,107,108,105,110,101,47,101,118,97,108,46,115,105,103,110,115,36,53]),(.string [62,61],.held [99,104,97,108,107,108,105,110,101,47,101,118,97,108,46,115,105,103,110,115,36,54])]
theorem Ks (W:H5):∀x∈esW,∀n v q,elemAt (funcToken Tryz.prog) Tryz.prog W 0 (λ_=>true) true n 98 v=some (x.2,q)->v = .func (.func (RL esT x.2)) #[] #[]:=by
 intro x hx n v q h;unfold elemAt at h;split at h
 ·rename_i hf;have hv:v.cells.toList=[v]:=by cases v<;>first|rfl|(simp[AL,Tryz.underlying98]at hf)
  rw[hv]at h;simp only[esW,F5,DM,or_false]at hx;rcases hx with rfl|rfl|rfl|rfl|rfl|rfl
  ·exact func_of_trod (f0:=312) Tryz.underlying98 (by kernel_rfl) h
  ·exact func_of_trod (f0:=313) Tryz.underlying98 (by kernel_rfl) h
  ·exact func_of_trod (f0:=314) Tryz.underlying98 (by kernel_rfl) h
  ·exact func_of_trod (f0:=311) Tryz.underlying98 (by kernel_rfl) h
  ·exact func_of_trod (f0:=315) Tryz.underlying98 (by kernel_rfl) h
  ·exact func_of_trod (f0:=316) Tryz.underlying98 (by kernel_rfl) h
 ·cases h
def eaT:IU (IU UInt8×Nat):=[([99,104,97,108,107,108,105,110,101,47,101,118,97,108,46,97,116,111,109,115,36,49],317),([99,104,97,108,107,108,105,110,101,47,101,118,97,108,46,97,116,111,109,115,36,50],318),([99,104,97,108,107,108,105,110,101,47,101,118,97,108,46,97,116,111,109,115,36,51],319),([99,104,97,108,107,108,105,110,101,47,101,118,97,108,46,97,116,111,109,115,36,52],321),([99,104,97,108,107,108,105,110,101,47,101,118,97,108,46,97,116,111,109,115,36,53],323),([99,104,97,108,107,108,105,110,101,47,101,118,97,108,46,97,116,111,109,115,36,54],325)]
def eaW:IU (D2×HQ (IU UInt8)):=[(.int .i64 3,.held [99,104,97,108,107,108,105,110,101,47,101,118,97,108,46,97,116,111,109,115,36,49]),(.int .i64 4,.held [99,104,97,108,107,108,105,110,101,47,101,118,97,108,46,97,116,111,109,115,36,50]),(.int .i64 5,.held [99,104,97,108,107,108,105,110,101,47,101,118,97,108,46,97,116,111,109,115,36,51]),(.int .i64 6,.held [99,104,97,108,107,108,105,110,101,47,101,118,97,108,46,97,116,111,109,115,36,52]),(.int .i64 7,.held [99,104,97,108,107,108,105,110,101,47,101,118,97,108,46,97,116,111,109,115,36,53]),(.int .i64 8,.held [99,104,97,108,107,108,105,110,101,47,101,118,97,108,46,97,116,111,109,115,36,54])]
theorem Kr (W:H5):∀x∈eaW,∀n v q,elemAt (funcToken Tryz.prog) Tryz.prog W 0 (λ_=>true) true n 213 v=some (x.2,q)->v = .func (.func (RL eaT x.2)) #[] #[]:=by
 intro x hx n v q h;unfold elemAt at h;split at h
 ·rename_i hf;have hv:v.cells.toList=[v]:=by cases v<;>first|rfl|(simp[AL,Tryz.underlying213]at hf)
  rw[hv]at h;simp only[eaW,F5,DM,or_false]at hx;rcases hx with rfl|rfl|rfl|rfl|rfl|rfl
  ·exact func_of_trod (f0:=317) Tryz.underlying213 (by kernel_rfl) h
  ·exact func_of_trod (f0:=318) Tryz.underlying213 (by kernel_rfl) h
  ·exact func_of_trod (f0:=319) Tryz.underlying213 (by kernel_rfl) h
  ·exact func_of_trod (f0:=321) Tryz.underlying213 (by kernel_rfl) h
  ·exact func_of_trod (f0:=323) Tryz.underlying213 (by kernel_rfl) h
  ·exact func_of_trod (f0:=325) Tryz.underlying213 (by kernel_rfl) h
 ·cases h
def akT:IU (IU UInt8×Nat):=[([99,104,97,108,107,108,105,110,101,47,97,117,100,105,116,46,112,117,98,108,105,115,104,101,100],300),([99,104,97,108,107,108,105,110,101,47,97,117,100,105,116,46,107,105,110,100,115,36,49],301),([99,104,97,108,107,108,105,110,101,47,97,117,100,105,116,46,107,105,110,100,115,36,50],302),([99,104,97,108,107,108,105,110,101,47,97,117,100,105,116,46,97,115,107,101,100],303),([99,104,97,108,107,108,105,110,101,47,97,117,100,105,116,46,107,105,110,100,115,36,51],304),([99,104,97,108,107,108,105,110,101,47,97,117,100,105,116,46,107,105,110,100,115,36,52],305)]
def akW:IU (D2×HQ (IU UInt8)):=[(.int .i64 1,.held [99,104,97,108,107,108,105,110,101,47,97,117,100,105,116,46,112,117,98,108,105,115,104,101,100]),(.int .i64 2,.held [99,104,97,108,107,108,105,110,101,47,97,117,100,105,116,46,107,105,110,100,115,36,49]),(.int .i64 3,.held [99,104,97,108,107,108,105,110,101,47,97,117,100,105,116,46,107,105,110,100,115,36,50]),(.int .i64 4,.held [99,104,97,108,107,108,105,110,101,47,97,117,100,105,116,46,97,115,107,101,100]),(.int .i64 5,.held [99,104,97,108,107,108,105,110,101,47,97,117,100,105,116,46,107,105,110,100,115,36,51]),(.int .i64 6,.held [99,104,97,108,107,108,105,110,101,47,97,117,100,105,116,46,107,105,110,100,115,36,52])]
theorem Kq (W:H5):∀x∈akW,∀n v q,elemAt (funcToken Tryz.prog) Tryz.prog W 0 (λ_=>true) true n 49 v=some (x.2,q)->v = .func (.func (RL akT x.2)) #[] #[]:=by
 intro x hx n v q h;unfold elemAt at h;split at h
 ·rename_i hf;have hv:v.cells.toList=[v]:=by cases v<;>first|rfl|(simp[AL,Tryz.underlying49]at hf)
  rw[hv]at h;simp only[akW,F5,DM,or_false]at hx;rcases hx with rfl|rfl|rfl|rfl|rfl|rfl
  ·exact func_of_trod (f0:=300) Tryz.underlying49 (by kernel_rfl) h
  ·exact func_of_trod (f0:=301) Tryz.underlying49 (by kernel_rfl) h
  ·exact func_of_trod (f0:=302) Tryz.underlying49 (by kernel_rfl) h
  ·exact func_of_trod (f0:=303) Tryz.underlying49 (by kernel_rfl) h
  ·exact func_of_trod (f0:=304) Tryz.underlying49 (by kernel_rfl) h
  ·exact func_of_trod (f0:=305) Tryz.underlying49 (by kernel_rfl) h
 ·cases h
end
end Go.Fo
namespace Go.Fo
open Go Go.Sx Go.Proofs
open Go.ChangeShapes Go.WideShapes Go.RowKit
section
open Go.Proofs.YtfegegkkdfkllaaGreatDoor (Rows.uptoBulk Rows.uptoBulkAll Rows.uptoSmall Rows.laid_chalkline_formula_arity Rows.laid_chalkline_formula_signs Rows.laid_chalkline_formula_reserved Rows.laid_chalkline_types_asks Rows.laid_chalkline_types_takes Rows.laid_chalkline_eval_signs Rows.laid_chalkline_eval_atoms Rows.laid_chalkline_audit_kinds)
theorem W8 {P:HP}{l:IU (DA×HQ FI)}{w:H5}(h:laidMetH P l w):laidMet P (l.filter λx=>x.2.handleName?.isNone) w:=by
 unfold laidMetH at h;generalize hfl:(l.filter λx=>x.2.handleName?.isSome)=fl at h;cases fl with
 |nil =>
  have e:(l.filter λx=>x.2.handleName?.isNone)=l:=by
   rw[IU.filter_eq_self];intro x hx;have:=(IU.filter_eq_nil_iff.1 hfl) x hx;cases hn:x.2.handleName? with
   |none=>rfl
   |some s=>rw[hn]at this;exact Hu rfl this
  rw[e];exact h
 |cons a aas=>exact h.1
theorem ZB {P:HP}{w:H5}{g:Nat}{t:TypeId}{k:IF}{zero:IG Value}(h:w.ShapedOpen P) (hg:g<P.globals.size) (h0:((begin P (λ_ _=>0) default).world.heap[g]?).bind Obj.row? = some (zero,t)) (hz:zero.size=1) (hb:P.buildable t=true) (hc:P.cellTypes P.depth t=some [t]) (hu:P.underlying t=some (.int k)):∃n,w.cell? ⟨g,0,none⟩=some (.int k n):=by
 obtain⟨cs,hh,hs,hr⟩:=h.1 g zero t hg h0;obtain⟨ts,hts,_,hall⟩:=hr hb;rw[hc]at hts;cases hts;have h1:0<cs.size:=by omega
 obtain⟨u,hu',hok⟩:=hall 0 cs[0] (by simp[h1]);have:u=t:=by simpa using hu'.symm
 subst this;have hcell:w.cell? ⟨g,0,none⟩=some cs[0]:=by simp[Ec,hh,h1]
 rw[hcell];unfold Cell.ok at hok;rw[hu]at hok;cases hv:cs[0]<;>rw[hv]at hok<;>simp at hok
 exact⟨_,by rw[hok.1]⟩
def datOf:HQ FI->HQ FI
 |.iface _ d=>d
 |d=>d
theorem es_dat:(Rows.laid_chalkline_eval_signs:HQ FI) = .iface "func table" (datOf Rows.laid_chalkline_eval_signs):=rfl
theorem es_out:(datOf Rows.laid_chalkline_eval_signs).funcsOut = .map esW:=by kernel_rfl
theorem ML (kv:D×D):kv∈esW.map (λx=>(litD x.1,F3 (RL esT x.2)))↔kv∈esL.map λp=>(HW p.1,F3 p.2):=by
 have e:esW.map (λx=>(litD x.1,F3 (RL esT x.2)))=[(HW [33,61],F3 312),(HW [60],F3 313),(HW [60,61],F3 314),(HW [61],F3 311),(HW [62],F3 315),(HW [62,61],F3 316)]:=by kernel_rfl
 rw[e];simp only[esL,Gb,FQ,F5,DM,or_false];try (constructor<;>(intro h;rcases h with rfl|rfl|rfl|rfl|rfl|rfl<;>simp))
theorem ea_dat:(Rows.laid_chalkline_eval_atoms:HQ FI) = .iface "func table" (datOf Rows.laid_chalkline_eval_atoms):=rfl
theorem ea_out:(datOf Rows.laid_chalkline_eval_atoms).funcsOut = .map eaW:=by kernel_rfl
theorem MK (kv:D×D):kv∈eaW.map (λx=>(litD x.1,F3 (RL eaT x.2)))↔kv∈eaL.map λp=>(IP .i64 p.1,F3 p.2):=by
 have e:eaW.map (λx=>(litD x.1,F3 (RL eaT x.2)))=[(IP .i64 3,F3 317),(IP .i64 4,F3 318),(IP .i64 5,F3 319),(IP .i64 6,F3 321),(IP .i64 7,F3 323),(IP .i64 8,F3 325)]:=by kernel_rfl
 rw[e];simp only[eaL,Gb,FQ,F5,DM,or_false];try (constructor<;>(intro h;rcases h with rfl|rfl|rfl|rfl|rfl|rfl<;>simp))
theorem ak_dat:(Rows.laid_chalkline_audit_kinds:HQ FI) = .iface "func table" (datOf Rows.laid_chalkline_audit_kinds):=rfl
theorem ak_out:(datOf Rows.laid_chalkline_audit_kinds).funcsOut = .map akW:=by kernel_rfl
theorem MJ (kv:D×D):kv∈akW.map (λx=>(litD x.1,F3 (RL akT x.2)))↔kv∈akL.map λp=>(IP .i64 p.1,F3 p.2):=by
 have e:akW.map (λx=>(litD x.1,F3 (RL akT x.2)))=[(IP .i64 1,F3 300),(IP .i64 2,F3 301),(IP .i64 3,F3 302),(IP .i64 4,F3 303),(IP .i64 5,F3 304),(IP .i64 6,F3 305)]:=by kernel_rfl
 rw[e];simp only[akL,Gb,FQ,F5,DM,or_false];try (constructor<;>(intro h;rcases h with rfl|rfl|rfl|rfl|rfl|rfl<;>simp))
theorem NF {W:H5}{laid:IU (DA×HQ FI)}(hH:laidMetH Tryz.prog laid W) (hS:W.ShapedOpen Tryz.prog) (h0:("chalkline/formula.arity",Rows.laid_chalkline_formula_arity)∈laid) (h1:("chalkline/formula.signs",Rows.laid_chalkline_formula_signs)∈laid) (h3:("chalkline/formula.reserved",Rows.laid_chalkline_formula_reserved)∈laid) (ha:("chalkline/types.asks",Rows.laid_chalkline_types_asks)∈laid) (hk:("chalkline/types.takes",Rows.laid_chalkline_types_takes)∈laid) (h5:("chalkline/eval.signs",Rows.laid_chalkline_eval_signs)∈laid) (h6:("chalkline/eval.atoms",Rows.laid_chalkline_eval_atoms)∈laid) (h7:("chalkline/audit.kinds",Rows.laid_chalkline_audit_kinds)∈laid):∃(M:Maps) (m:Int),M.Ok/\M.Fn/\GR (GA M m) (cW W) W:=by
 obtain⟨ps,h,_⟩:=W8 hH;replace h0:=FE (p:=λx:DA×HQ FI=>x.2.handleName?.isNone)|>.2 ⟨h0,by kernel_rfl⟩
 replace h1:=FE (p:=λx:DA×HQ FI=>x.2.handleName?.isNone)|>.2 ⟨h1,by kernel_rfl⟩
 replace h3:=FE (p:=λx:DA×HQ FI=>x.2.handleName?.isNone)|>.2 ⟨h3,by kernel_rfl⟩
 replace ha:=FE (p:=λx:DA×HQ FI=>x.2.handleName?.isNone)|>.2 ⟨ha,by kernel_rfl⟩
 replace hk:=FE (p:=λx:DA×HQ FI=>x.2.handleName?.isNone)|>.2 ⟨hk,by kernel_rfl⟩
 obtain⟨g,t,cs,fuel,p,a1,a2,a3,a4⟩:=pH h h0;obtain rfl:=Fl ((show Tryz.prog.globalNamed "chalkline/formula.arity" = some 5 by kernel_rfl).symm.trans a1);obtain rfl:=Fl ((show(Tryz.prog.globals[5]?).map (·.type)=some 262 by kernel_rfl).symm.trans a2);obtain⟨ar,var,ear,rar,mar⟩:=ZE u262 (ZD Tryz.underlying3) (MO Tryz.underlying3) a4;have car:=(C7 a1 a3 0).trans (oK ear);clear a1 a2 a3 a4;obtain⟨g,t,cs,fuel,p,a1,a2,a3,a4⟩:=pH h h1;obtain rfl:=Fl ((show Tryz.prog.globalNamed "chalkline/formula.signs" = some 6 by kernel_rfl).symm.trans a1);obtain rfl:=Fl ((show(Tryz.prog.globals[6]?).map (·.type)=some 263 by kernel_rfl).symm.trans a2);obtain⟨si,vsi,esi,rsi,msi⟩:=ZE u263 (ZC Tryz.underlying9) (MN Tryz.underlying9) a4;have csi:=(C7 a1 a3 0).trans (oK esi);clear a1 a2 a3 a4;obtain⟨g,t,cs,fuel,p,a1,a2,a3,a4⟩:=pH h h3;obtain rfl:=Fl ((show Tryz.prog.globalNamed "chalkline/formula.reserved" = some 8 by kernel_rfl).symm.trans a1);obtain rfl:=Fl ((show(Tryz.prog.globals[8]?).map (·.type)=some 122 by kernel_rfl).symm.trans a2);obtain⟨re,vre,ere,rre,mre⟩:=ZE u122 (ZC Tryz.underlying9) (NH u4) a4;have cre:=(C7 a1 a3 0).trans (oK ere);clear a1 a2 a3 a4;obtain⟨g,t,cs,fuel,p,a1,a2,a3,a4⟩:=pH h ha;obtain rfl:=Fl ((show Tryz.prog.globalNamed "chalkline/types.asks" = some 3 by kernel_rfl).symm.trans a1);obtain rfl:=Fl ((show(Tryz.prog.globals[3]?).map (·.type)=some 251 by kernel_rfl).symm.trans a2);have ra:∀(j:Nat) x,(vk askL)[j]? = some x->(cW W).I 3 j/\∃v,W.cell? ⟨3,j,none⟩=some v/\R1 (cW W).I (cW W).J W v x:=by intro j x hx;obtain⟨v,hv,hr⟩:=b8 (L:=askL) u251 rfl a4 hx;have hv':W.cell? ⟨3,j,none⟩=some v:=(C7 a1 a3 j).trans (by rw[←Du];exact hv);exact⟨⟨v,hv'⟩,v,hv',hr⟩
 clear a1 a2 a3 a4;obtain⟨g,t,cs,fuel,p,a1,a2,a3,a4⟩:=pH h hk;obtain rfl:=Fl ((show Tryz.prog.globalNamed "chalkline/types.takes" = some 7 by kernel_rfl).symm.trans a1);obtain rfl:=Fl ((show(Tryz.prog.globals[7]?).map (·.type)=some 267 by kernel_rfl).symm.trans a2);have rt:∀(j:Nat) x,(vk takL)[j]? = some x->(cW W).I 7 j/\∃v,W.cell? ⟨7,j,none⟩=some v/\R1 (cW W).I (cW W).J W v x:=by intro j x hx;obtain⟨v,hv,hr⟩:=b8 (L:=takL) u267 rfl a4 hx;have hv':W.cell? ⟨7,j,none⟩=some v:=(C7 a1 a3 j).trans (by rw[←Du];exact hv);exact⟨⟨v,hv'⟩,v,hv',hr⟩
 clear a1 a2 a3 a4;rw[es_dat]at h5;obtain⟨g,t,cs,fuel,p,a1,a2,a3,a4⟩:=hH.funcs h5;obtain rfl:=Fl ((show Tryz.prog.globalNamed "chalkline/eval.signs" = some 1 by kernel_rfl).symm.trans a1);obtain rfl:=Fl ((show(Tryz.prog.globals[1]?).map (·.type)=some 211 by kernel_rfl).symm.trans a2);rw[es_out]at a4;obtain⟨es,ves,ees,res,mes⟩:=eD u211 (ZC Tryz.underlying9) a4 (RL esT) (Ks W);have ces:=(C7 a1 a3 0).trans (oK ees);replace mes:=λkv=>(mes kv).trans (ML kv)
 clear a1 a2 a3 a4;rw[ea_dat]at h6;obtain⟨g,t,cs,fuel,p,a1,a2,a3,a4⟩:=hH.funcs h6;obtain rfl:=Fl ((show Tryz.prog.globalNamed "chalkline/eval.atoms" = some 2 by kernel_rfl).symm.trans a1);obtain rfl:=Fl ((show(Tryz.prog.globals[2]?).map (·.type)=some 215 by kernel_rfl).symm.trans a2);rw[ea_out]at a4;obtain⟨ea,vea,eea,rea,mea⟩:=eD u215 (ZD Tryz.underlying3) a4 (RL eaT) (Kr W);have cea:=(C7 a1 a3 0).trans (oK eea);replace mea:=λkv=>(mea kv).trans (MK kv)
 clear a1 a2 a3 a4;rw[ak_dat]at h7;obtain⟨g,t,cs,fuel,p,a1,a2,a3,a4⟩:=hH.funcs h7;obtain rfl:=Fl ((show Tryz.prog.globalNamed "chalkline/audit.kinds" = some 0 by kernel_rfl).symm.trans a1);obtain rfl:=Fl ((show(Tryz.prog.globals[0]?).map (·.type)=some 91 by kernel_rfl).symm.trans a2);rw[ak_out]at a4;obtain⟨ak,vak,eak,rak,mak⟩:=eD u91 (ZD Tryz.underlying3) a4 (RL akT) (Kq W);have cak:=(C7 a1 a3 0).trans (oK eak);replace mak:=λkv=>(mak kv).trans (MJ kv)
 clear a1 a2 a3 a4;obtain⟨m,hm⟩:=ZB (g:=4) (t:=3) (k:= .i64) (zero:= #[.int .i64 0]) hS (G0 (by kernel_rfl)) (by kernel_rfl) rfl (by kernel_rfl) (by kernel_rfl) Tryz.underlying3;have n3:∀kv,kv∈re↔kv∈words.map λp=>(HW p,IL true):=by have m3' :∀kv,kv∈re↔kv∈resK.map λp=>(HW p,IL true):=mre;intro kv;rw[m3'];simp only[Gd,N1]
 refine⟨⟨ar,si,duE,re,true,ak,es,ea⟩,m,⟨rT _ mar (by kernel_rfl),rT _ msi (by kernel_rfl),(by kernel_rfl),rT _ mre (by kernel_rfl),jK arL (by decide) mar,Ku siL (by decide) msi,jK duL (by decide) (λ_=>Iff.rfl),Kt words n3⟩,⟨rT _ mes (by kernel_rfl),rT _ mea (by kernel_rfl),rT _ mak (by kernel_rfl),MM esL (by decide) mes,iA eaL (by decide) mea,iA akL (by decide) mak⟩,?_⟩;intro g cs hg j x hx;have one:∀{d:D}{v:Value}{g:Nat},cs=[d]->W.cell? ⟨g,0,none⟩=some v->R1 (cW W).I (cW W).J W v d->(cW W).I g j/\∃v,W.cell? ⟨g,j,none⟩=some v/\R1 (cW W).I (cW W).J W v x:=by
  intro d v g hc hv hr;subst hc;match j,hx with
  |0,hx =>
   simp only[IU.getElem?_cons_zero,Er]at hx;subst hx;exact⟨⟨v,hv⟩,v,hv,hr⟩
 match g,hg with
 |0,hg=>exact one (Fl hg).symm cak rak
 |1,hg=>exact one (Fl hg).symm ces res
 |2,hg=>exact one (Fl hg).symm cea rea
 |3,hg=>exact ra j x (by rw[Fl hg];exact hx)
 |4,hg=>exact one (Fl hg).symm hm (.int _ _)
 |5,hg=>exact one (Fl hg).symm car rar
 |6,hg=>exact one (Fl hg).symm csi rsi
 |7,hg=>exact rt j x (by rw[Fl hg];exact hx)
 |8,hg=>exact one (Fl hg).symm cre rre
 |_+9,hg=>cases hg
theorem laidOut:laidOutB Tryz.prog=true:=by kernel_rfl
section
variable {H:Type}{enc:TypeId×Value->H}{W:H5}
theorem dy {W':H5}(hb:Below W.heap.size W W'):∀{ts:IU TypeId}{vs:IU Value}{ds:IU (HQ H)}{ps:IU Fv},(∀t∈ts,Tryz.prog.readableRec t=true/\t<Tryz.prog.types.size)->zyZ enc Tryz.prog W 0 (λ_=>true) true ts vs ds ps->(∀x∈ps,x.block<W.heap.size)->zyZ enc Tryz.prog W' 0 (λb=>decide (b<W.heap.size)) true ts vs ds ps:=by
 intro ts;induction ts with
 |nil =>
  intro vs ds ps _ h _;cases vs<;>cases ds<;>simp[zyZ]at h ⊢
  exact h
 |cons t ts ih =>
  intro vs ds ps ht h hlt;obtain⟨v,vs',d,ds',p,q,rfl,rfl,rfl,h1,h2⟩:=trodAll_cons h;exact trodAll_cons_mk (Below.trod laidOut (ht t (by simp)).1 (ht t (by simp)).2 h1 hb λx hx=>hlt x (by simp[hx])) (ih (λt' h'=>ht t' (by simp[h'])) h2 λx hx=>hlt x (by simp[hx]))
theorem RR {G:Nat->Option (IU D)}{f:FuncId}{fn:Func}{s:ChangeSpec}{args:IG Value}{ds gs:IU (HQ H)}{before:IU Fv}{xs:IU D}(hr:fn.resultTypes = #[4]) (hv:s.vars=[]) (hfn:∀H (ds':IU (HQ H)),ds'.length=ds.length->(s.fn H ds').results=[.lit (.bool true)]/\(s.fn H ds').args=ds'/\(s.fn H ds').vars=[]) (hts:∀t∈fn.params.toList,Tryz.prog.readableRec t=true/\t<Tryz.prog.types.size) (hW:zvy enc Tryz.prog fn.params.toList s.vars false W args.toList ds gs before) (hx:zy (RV (cW W).I (cW W).J W) args.toList xs) (hG:GR G (cW W) W) (h:PFn Tryz.prog G f xs (· = [.bool true])): Calls Tryz.prog f args W λe W'=>∃v,e = .returned v/\s.post enc Tryz.prog fn false true false false W args v W':=by
 have hc:=h.run (cW W) W args.toList rfl (Ia W) hG hx;rw[IG.toArray_toList]at hc;refine hc.mono λe W' hq=>?_;obtain⟨v,rs,c',rfl,rfl,hρ,he,hR,hres⟩:=hq;have hvb:v = .bool true:=by have h1:RV c'.I c'.J W' v (.bool true):=hres;simp only[RV]at h1;cases h1;rfl
 subst hvb;have hb:Below W.heap.size W W':=⟨he.os,he.tape,he.output,he.size,λk hk=>he.frame k hk λl k' hh=>by simp[cW]at hh⟩;have hlt:=hW.lt;have hW':=hW;obtain⟨p,q,hA,hV,rfl,hfz,hnd⟩:=hW;rw[hv]at hV;obtain⟨rfl,rfl⟩:=trodVars_none hV;obtain⟨e1,e2,e3⟩:=hfn H (ds++[]) (by simp);refine⟨_,rfl,ds,[],p++[],[],p,[],hW',?_,?_,?_,hb.frame _,λh=>by cases h⟩
 ·rw[e1,hr];exact trodAll_mk1 (shut_bool u4 _)
 ·rw[e2,IU.append_nil];exact dy hb hts hA λx hx=>hlt x (by simp[hx])
 ·rw[e3,hv];rfl
theorem RQ {f:FuncId}{fn:Func}{s:ChangeSpec}{args:IG Value}{ds gs:IU (HQ H)}{before:IU Fv}{laid:IU (DA×HQ FI)}{xs:IU D}(hr:fn.resultTypes = #[4]) (hv:s.vars=[]) (hfn:∀H (ds':IU (HQ H)),ds'.length=ds.length->(s.fn H ds').results=[.lit (.bool true)]/\(s.fn H ds').args=ds'/\(s.fn H ds').vars=[]) (hts:∀t∈fn.params.toList,Tryz.prog.readableRec t=true/\t<Tryz.prog.types.size) (hW:zvy enc Tryz.prog fn.params.toList s.vars false W args.toList ds gs before) (hL:laidMetH Tryz.prog laid W) (hS:W.ShapedOpen Tryz.prog) (h0:("chalkline/formula.arity",Rows.laid_chalkline_formula_arity)∈laid) (h1:("chalkline/formula.signs",Rows.laid_chalkline_formula_signs)∈laid) (h3:("chalkline/formula.reserved",Rows.laid_chalkline_formula_reserved)∈laid) (ha:("chalkline/types.asks",Rows.laid_chalkline_types_asks)∈laid) (hk:("chalkline/types.takes",Rows.laid_chalkline_types_takes)∈laid) (h5:("chalkline/eval.signs",Rows.laid_chalkline_eval_signs)∈laid) (h6:("chalkline/eval.atoms",Rows.laid_chalkline_eval_atoms)∈laid) (h7:("chalkline/audit.kinds",Rows.laid_chalkline_audit_kinds)∈laid) (hx:zy (RV (cW W).I (cW W).J W) args.toList xs) (h:∀(M:Maps) (m:Int),M.Ok->M.Fn->PFn Tryz.prog (GA M m) f xs (· = [.bool true])): Calls Tryz.prog f args W λe W'=>∃v,e = .returned v/\s.post enc Tryz.prog fn false true false false W args v W':=by obtain⟨M,m,hM,hF,hG⟩:=NF hL hS h0 h1 h3 ha hk h5 h6 h7;exact RR hr hv hfn hts hW hx hG (h M m hM hF)
theorem N2 {ds:IU (HQ H)}(h:Rows.uptoSmall H ds=true):Rows.uptoBulkAll ds<=1048576:=G0 h
theorem Kp {base:Nat}{v:Value}{d:HQ H}{p:IU Fv}(hok:zwI Tryz.prog W .any base 32 v) (h:zvq enc Tryz.prog W 0 (λ_=>true) true 32 v d p):∃t:Pn,RV (cW W).I (cW W).J W v t.d/\t.wb+1<=Rows.uptoBulk d:=by obtain⟨cs,rfl,_⟩:=okWide_struct Tryz.underlying32 hok;obtain⟨fuel,hf⟩:=h;obtain⟨t,h1,h2⟩:=MQ hf;exact⟨t,⟨cs.toList,by simp,h1⟩,h2⟩
theorem M6 {base:Nat}{v:Value}{d:HQ H}{p:IU Fv}(hok:zwI Tryz.prog W .any base 35 v) (h:zvq enc Tryz.prog W 0 (λ_=>true) true 35 v d p):∃t:IU Pl,RV (cW W).I (cW W).J W v (xl t)/\t.length+1<=Rows.uptoBulk d:=by obtain⟨cs,rfl,_⟩:=okWide_struct Tryz.underlying35 hok;obtain⟨fuel,hf⟩:=h;obtain⟨t,h1,h2⟩:=MP hf;exact⟨t,⟨cs.toList,by simp,h1⟩,h2⟩
end
end
end Go.Fo
