/- Joined texts: the walk by computed conditions, the contracts of the functions, the plain laws. -/
import Derived.Test.YtfegegkkdfkllaaGreatDoorB1
import Derived.Test.YtfegegkkdfkllaaGreatDoorB2
import Derived.Lib.SlTrimSet
set_option linter.unusedVariables false
set_option linter.unusedSimpArgs false
set_option maxRecDepth 100000
set_option maxHeartbeats 0
noncomputable section
open Array renaming toList->Mm
open Bool renaming and_eq_false_iff->Jt,and_eq_true->NK,and_false->IS,eq_iff_iff->MG,false_and->JY,false_eq_true->LH,false_or->LF,not_eq_true'->Lc,not_eq_true->Iu,not_false->Gw,not_true->K6,or_eq_false_iff->LA,or_eq_true->L4,true_and->JV
open ByteArray renaming data->Mn,mk->Mi
open Classical renaming em->KN
open Decidable renaming em->EX
open Go renaming Code->Np,LoopState->NQ,Program->Ng
open Go.Code renaming exit->Jk,ret->Lg
open Go.Fo.Bd renaming d->N3,name->If,sort->IC
open Go.Fo.Fm renaming bs->NJ,checkI->J9,d->NX,d_mk->HO,depth->D0,depths->Kc,formB->Lw,induct->KY,kind->NU,l->Nt,mk->Kt,n->NA,name->NG,ranks->MQ,ts->NH,wt_lt->HU,wts->Kv
open Go.Fo.Tm renaming d->Nc,kind->MA,n->Ks,name->MI
open Go.IntKind renaming i64->Nq,wrap->Nl
open Go.Lib renaming decDigits->Hj,trimS->Ij
open Go.LoopState renaming busy->J3,done->J4,ready->Mg
open Go.RowKit.Below renaming refl->Ah
open Go.Sx renaming PCall->Nn,PFn->OB,PMaker->JP,PYield->Mo,rowAt->Ky
open Go.Sx.AV renaming any->OI,clo->Ml,d->OF,iptr->Ma,map->L1,nilf->Fq,nils->HN,ptr->N5,yld->NE
open Go.Sx.Box renaming cells->Ns,loop->M7
open Go.Sx.D renaming agg->NY,bool->OD,cells->Mw,int->OH,sl->OE,str->NZ,toBool->Kz,toInt->NO,toSl->MT,toStr->MJ
open Go.Sx.PFn renaming of_calls->CQ
open Go.Sx.PFnA renaming walk->IH
open Go.Sx.PYield renaming walk->Jl
open Go.Sx.Sh renaming bool->Jy,int->NP,norm->MK,ok->L2,sl->NB,str->NC
open Int renaming le_of_lt->CM,le_refl->JT,lt_or_eq_of_le->IV,mul_le_mul->Cn,mul_le_mul_of_nonneg_left->HG,mul_nonneg->JX,tdiv_eq_ediv_of_nonneg->HF,toNat->N1,toNat_natCast->M1,zero_add->IP
open List renaming all->LV,all_append->J2,all_cons->J7,all_eq_false->FB,all_eq_true->ND,any->Lv,any_append->Hl,any_cons->K7,any_eq_true->Jb,any_nil->Hf,append_assoc->JM,contains->Hi,contains_eq_mem->FT,drop->Lx,dropWhile_cons->DQ,drop_eq_nil_of_le->Ls,filter_append->FH,filter_cons_of_neg->Db,filter_cons_of_pos->Dc,find?->EH,find?_cons->KP,flatMap_cons->IU,flatten->Ef,getD_eq_getElem?_getD->LB,getElem?_eq_getElem->LR,getElem?_eq_none->My,getElem?_eq_none_iff->HD,getElem?_map->M6,isEmpty_iff->G5,length->OJ,length_append->Kb,length_cons->MO,length_map->Nv,length_pos_iff->Hv,length_replicate->HA,lookup->IM,map->OM,map_append->Lq,map_cons->Mf,map_map->Io,mem_append->LG,mem_cons->MU,mem_cons_of_mem->FS,mem_cons_self->IW,mem_flatMap->E8,mem_iff_getElem->KS,mem_map->Mj,mem_of_getElem?->MX,mem_of_mem_take->Je,mem_range->Lp,mem_singleton->DM,nodup_append->G3,nodup_cons->KZ,not_mem_nil->Ja,range->Mq,replicate->M4,reverse->Mx,take->NW,take_add_one->Lb,take_length->La,take_of_length_le->MY,take_succ_cons->Lj,zip_cons_cons->FK
open List.Sublist renaming map->Ag
open Nat renaming add_mul->Kn,le_refl->MS,lt_or_ge->M0,zero_le->L6
open Option renaming getD->Nz,getD_some->Li,isSome->IR,isSome_some->Js,toList_some->FI
open Prod renaming fst->N7,snd->NV
open UInt8 renaming ofNat->GY
open _root_ renaming List->ON,Option->OK,True->OG,absurd->No,decide_eq_false_iff_not->M2,decide_eq_true_eq->NR,if_neg->N2,if_pos->Nf,of_decide_eq_true->M3
namespace Go.Fo
open Go Go.Sx
def cut49:ON UInt8:=[97,98,99,100,101,102,103,104,105,106,107,108,109,110,111,112,113,114,115,116,117,118,119,120,121,122,48,49,50,51,52,53,54,55,56,57,95]
def words:ON (ON UInt8):=[[104,97,114,100],[115,111,102,116],[101,97,99,104],[97,108,108],[115,111,109,101],[108,101,97,115,116],[109,111,115,116],[116,114,117,101],[102,97,108,115,101],[97,116],[105,110],[116,101,97,99,104,101,115],[97,116,116,101,110,100,115],[97,119,97,121],[115,104,117,116],[100,97,121],[104,111,117,114],[104,111,117,115,101],[115,101,97,116,115],[115,105,122,101],[108,101,115,115,111,110],[115,108,111,116],[114,111,111,109],[112,101,114,115,111,110],[103,114,111,117,112]]
def ro (s:ON UInt8):Bool:= !(s==[]||decide (s.length>64)||words.contains s)&&(Ij s cut49==[]&&decide (97<=(s.getD 0 0).toNat))
theorem tr {p:UInt8->Bool}:∀{l:ON UInt8},l.dropWhile p=[]↔ ∀x∈l,p x=true
 |[]=>by simp
 |a::l=>by
  rw[DQ];cases h:p a with
  |true=>simp[h,tr (l:=l)]
  |false=>simp[h]
theorem gW {p:UInt8->Bool}:∀{l:ON UInt8}{a:UInt8}{r:ON UInt8},l.dropWhile p=a::r->p a=false
 |[],_,_,h=>by simp at h
 |b::l,a,r,h=>by
  rw[DQ]at h;cases hb:p b with
  |true=>rw[hb]at h;exact gW (l:=l) h
  |false=>rw[hb]at h;simp at h;rw[←h.1];exact hb
theorem gV {s cs:ON UInt8}:Ij s cs=[]↔ ∀b∈s,cs.contains b=true:=by
 unfold Ij Lib.trimLeftS;rw[tr];unfold Lib.trimRightS;simp only[ON.mem_reverse];constructor
 ·intro h;have h0:s.reverse.dropWhile (λx=>cs.contains x)=[]:=by
   cases h1:s.reverse.dropWhile (λx=>cs.contains x)with
   |nil=>rfl
   |cons a r =>
    have h2:=gW h1;have h3:=h a (by rw[h1];simp);rw[h3]at h2;cases h2
  rw[tr]at h0;intro b hb;exact h0 b (by simpa using hb)
 ·intro h x hx;exact h x (by simpa using (ON.dropWhile_sublist _).subset hx)
theorem cut_all:∀n:Nat,n<256->cut49.contains (GY n)=(bv (GY n)||Vs (GY n)||decide ((GY n).toNat=95)):=by decide +kernel
theorem bp (b:UInt8):cut49.contains b=(bv b||Vs b||decide (b.toNat=95)):=by have:=cut_all b.toNat b.toNat_lt;simpa using this
theorem stands_at:∀i:Nat,i<135->resS[i]? = some 32->(resS.drop (i+1)).takeWhile (· != 32)=[]∨words.contains ((resS.drop (i+1)).takeWhile (· != 32))=true:=by decide +kernel
theorem res_len:resS.length=135:=by decide
theorem stands_words:words.all (λs=>sw resS (32::s++[32]))=true:=by decide +kernel
theorem Z4 {s:ON UInt8}(hs:∀b∈s,b≠32) (h1:s≠[]):sw resS (32::s++[32])=words.contains s:=by
 cases hw:words.contains s with
 |true =>
  exact ND.1 stands_words s (by simpa using hw)
 |false =>
  cases h:sw resS (32::s++[32])with
  |false=>rfl
  |true =>
   obtain⟨i,hi,he⟩:=ll.1 h;have hi':i<135:=by have:=res_len;simp at hi;omega
   have hd:∃t,resS.drop i=32::(s++[32]++t):=by refine⟨(resS.drop i).drop (32::s++[32]).length,?_⟩;have:=ON.take_append_drop (32::s++[32]).length (resS.drop i);rw[he]at this;rw[←this];simp
   obtain⟨t,ht⟩:=hd;have h32:resS[i]? = some 32:=by
    have:(resS.drop i)[0]? = some 32:=by rw[ht];rfl
    simpa using this
   have hd1:resS.drop (i+1)=s++[32]++t:=by
    have:(resS.drop i).tail=s++[32]++t:=by rw[ht];rfl
    rw[←this];simp
   have htw:(resS.drop (i+1)).takeWhile (· != 32)=s:=by rw[hd1,JM,ON.takeWhile_append_of_pos (λb hb=>by simpa using hs b hb)];simp
   rcases stands_at i hi' h32 with h3|h3
   ·rw[htw]at h3;exact No h3 h1
   ·rw[htw,hw]at h3;cases h3
theorem XP (s:ON UInt8):ro s=yO s:=by
 have hnil:s=[]->ro s=yO s:=by rintro rfl;rfl
 rcases KN (s=[])with h0|h0
 ·exact hnil h0
 have hlen:1<=s.length:=by
  cases s with
  |nil=>exact No rfl h0
  |cons a r=>simp
 have hA:gZ s=(decide (s.length<=64)&&(Ij s cut49==[]&&decide (97<=(s.getD 0 0).toNat))):=by
  rw[MG];simp only[gZ,NK,ND,Lp,NR,beq_iff_eq,gV];constructor
  ·rintro⟨⟨h1,h2⟩,h3⟩;refine⟨h3,λb hb=>?_,?_⟩
   ·obtain⟨i,hi,rfl⟩:=KS.1 hb;have:=h1 i hi;rw[LB,LR hi,Li]at this;rw[bp];unfold XQ at this;cases hl:bv s[i]with
    |true=>rfl
    |false =>
     rw[hl]at this;simp only[LF,NK]at this ⊢;exact this.2
   ·have:=h1 0 (by omega);unfold XQ bv at this;simp only[ne_eq,not_true_eq_false,decide_false,JY,Bool.or_false,NK,NR]at this;exact this.1
  ·rintro⟨h1,h2,h3⟩;refine⟨⟨λi hi=>?_,hlen⟩,h1⟩;rw[LB,LR hi,Li];have h4:=h2 s[i] (ON.getElem_mem hi);rw[bp]at h4;unfold XQ;cases hl:bv s[i]with
   |true=>rfl
   |false =>
    rw[hl]at h4;simp only[LF,NK]at h4 ⊢;refine⟨?_,h4⟩;simp only[ne_eq,NR];rintro rfl;rw[LB,LR hi,Li]at h3;unfold bv at hl;unfold Vs at h4;simp only[L4,NK,NR,Jt,M2]at h4 hl;omega
 have hB:(s==[])=false:=by simpa using h0
 cases hw:gZ s with
 |false =>
  rw[yO,hw,JY];rw[hw]at hA;unfold ro;rw[hB,LF];cases hl:decide (s.length<=64)with
  |true =>
   rw[hl,JV]at hA;rw[←hA,IS]
  |false =>
   have:decide (s.length>64)=true:=by simp at hl ⊢;omega
   rw[this];rfl
 |true =>
  rw[yO,hw,JV];rw[hw]at hA;have h1:=hA.symm;simp only[NK]at h1;obtain⟨h2,h3⟩:=h1;have hn32:∀b∈s,b≠32:=by
   have h4:Ij s cut49=[]:=by simpa using h3.1
   rw[gV]at h4;intro b hb e;have:=h4 b hb;rw[e]at this;revert this;decide
  rw[Z4 hn32 h0];unfold ro;have h5:decide (s.length>64)=false:=by simp at h2 ⊢;omega
  rw[hB,h5,h3.1,h3.2];simp
end Go.Fo
namespace Go.Fo
open Go Go.Sx Go.Proofs
structure Maps where
 ar:ON (D×D)
 si:ON (D×D)
 du:ON (D×D)
 re:ON (D×D)
 nd:Bool
 ak:ON (D×D)
 es:ON (D×D)
 ea:ON (D×D)
def wY (l:ON (Int×Int)):ON D:=(l.map λp=>[OH .i64 p.1,OH .i64 p.2]).flatten
def takL:ON (Int×Int):=[(0,0),(0,0),(0,0),(2,6),(2,8),(3,7),(3,8),(1,8)]
def askL:ON (Int×Int):=[(0,0),(0,0),(0,0),(1,2),(1,3),(4,1),(5,1),(4,2),(3,2)]
def GG (M:Maps):Nat->OK (ON D)
 |0=>some [.gmap M.ak]
 |1=>some [.gmap M.es]
 |2=>some [.gmap M.ea]
 |3=>some (wY askL)
 |5=>some [.gmap M.ar]
 |6=>some [.gmap M.si]
 |7=>some (wY takL)
 |8=>some [.gmap M.re]
 |_=>none
def arL:ON (Int×Int):=[(1,0),(2,0),(3,0),(4,0),(5,0),(6,0),(7,0),(8,0),(9,0),(10,1),(11,2),(12,2),(13,2),(14,1),(15,1),(16,1),(17,1)]
def duL:ON (Int×Int):=[(1,2),(2,1),(11,12),(12,11),(14,15),(15,14),(16,17),(17,16)]
def siL:ON (ON UInt8×ON UInt8):=[([33,61],[61]),([60],[62,61]),([60,61],[62]),([61],[33,61]),([62],[60,61]),([62,61],[60])]
structure Maps.Ok (M:Maps):Prop where
 arA:(M.ar.all λkv=>sameKind (.int .i64 0) kv.1&&L2 (.int .i64) kv.2)=true
 siA:(M.si.all λkv=>sameKind (.str []) kv.1&&L2 .str kv.2)=true
 duA:(M.du.all λkv=>sameKind (.int .i64 0) kv.1&&L2 (.int .i64) kv.2)=true
 reA:(M.re.all λkv=>sameKind (.str []) kv.1&&L2 .bool kv.2)=true
 arG:∀k,zX M.ar (.int .i64 k)=(arL.lookup k).map (.int .i64)
 siG:∀s,zX M.si (.str s)=(siL.lookup s).map .str
 duG:∀k,zX M.du (.int .i64 k)=(duL.lookup k).map (.int .i64)
 reG:∀s,zX M.re (.str s)=if words.contains s then some (.bool true)else none
theorem jk (s:ON UInt8) (x:D):sameKind (.str s) x=sameKind (.str []) x:=by cases x<;>rfl
theorem oH (k:Int) (x:D):sameKind (.int .i64 k) x=sameKind (.int .i64 0) x:=by cases x<;>rfl
section
variable {G:Nat->OK (ON D)}{M:Maps}
theorem QF (s:ON UInt8) (hs:s.length<=9223372036854775807):OB Tryz.prog G 251 [.str s,.str cut49] (· = [.str (Ij s cut49)]):=by refine CQ (v:= .string ⟨(Ij s cut49).toArray⟩) (λI J w=>R1.str _) λc w vs hρ hr hvs=>?_;obtain⟨v1,vs1,rfl,h1,h2⟩:=hvs.cons_right;obtain⟨v2,vs2,rfl,h3,h4⟩:=h2.cons_right;have:=h4.nil_right;subst this;cases h1;cases h3;have h:=Any.strings_Trim_laid Tryz.lays160 (by kernel_rfl) ⟨s.toArray⟩ ⟨cut49.toArray⟩ w (by rw[oY];exact hs) (by decide) (ascii_of_all (by decide));exact h
abbrev YX (a:ON UInt8):Bool:=a==Mm (Mn (Mi #[]))
abbrev Vo (a:ON UInt8):Bool:=bif YX a then true else decide ((↑(OJ a):Int)>64)
abbrev Vn (a:ON UInt8) (b:Maps):Bool:=bif Vo a then true else Kz (Nz (zX (Maps.re b) (NZ a)) (OD false))
theorem RS (hM:M.Ok) (s:ON UInt8) (hs:s.length<=9223372036854775807):OB Tryz.prog (GG M) 225 [.str s] (· = [.bool (yO s)]):=by
 rw[←XP];refine zn Tryz.func225 ⟨_,rfl⟩ ?_;apply @z7 _ ((Vo s=false->(LV (Maps.re M) λ(kv:D×D)=>sameKind (NZ s) (N7 kv)&&L2 Jy (NV kv))=true)/\(Vn s M=true->[OD false]=[OD (ro s)])/\(Vn s M=false->OB Tryz.prog (GG M) 251 [NZ s,.str (Mm (Mn (Mi #[(97:UInt8),(98:UInt8),(99:UInt8),(100:UInt8),(101:UInt8),(102:UInt8),(103:UInt8),(104:UInt8),(105:UInt8),(106:UInt8),(107:UInt8),(108:UInt8),(109:UInt8),(110:UInt8),(111:UInt8),(112:UInt8),(113:UInt8),(114:UInt8),(115:UInt8),(116:UInt8),(117:UInt8),(118:UInt8),(119:UInt8),(120:UInt8),(121:UInt8),(122:UInt8),(48:UInt8),(49:UInt8),(50:UInt8),(51:UInt8),(52:UInt8),(53:UInt8),(54:UInt8),(55:UInt8),(56:UInt8),(57:UInt8),(95:UInt8)])))] λ(rs:ON D)=>∃(s_1:ON UInt8),rs = [NZ s_1]/\(YX s_1=true->(0:Int)<=0/\N1 0<OJ s)/\[OD (bif YX s_1 then decide ((↑(UInt8.toNat (ON.getD s (N1 0) (0:UInt8))):Int)>=97)else false)]=[OD (ro s)]))
 ·kernel_rfl
 delta Vo YX Vn;have hr:Kz (Nz (zX (Maps.re M) (NZ s)) (OD false))=words.contains s:=by rw[hM.reG];cases words.contains s<;>rfl
 have e0:Mm (Mn { data:= #[] })=([]:ON UInt8):=rfl;have e1:decide ((s.length:Int)>64)=decide (s.length>64):=by rw[MG];simp;omega
 simp only[hr,e0,e1,yi,jk s];refine⟨λ_=>hM.reA,λh=>?_,λh=>?_⟩
 ·simp only[ro,h,K6,JY]
 ·refine(QF s hs).mono ?_;rintro rs rfl;refine⟨_,rfl,λh2=>⟨by omega,?_⟩,?_⟩
  ·show 0<s.length;cases s with
   |nil=>simp at h
   |cons a r=>simp
  ·simp only[ro,h,Gw,JV,zM];congr 3;rw[MG];simp;omega
theorem QE (hM:M.Ok) (t:Tm) (hs:t.name.length<=9223372036854775807):OB Tryz.prog (GG M) 222 [t.d] (· = [.bool (yC t)]):=by
 unfold Nc;refine zn Tryz.func222 ⟨_,rfl⟩ ?_;apply @z7 _ (((MA t==1)=true->OB Tryz.prog (GG M) 226 [OH .i64 (Ks t)] λ(rs:ON D)=>∃(b:Bool),rs=[OD b]/\[OD (bif MI t==Mm (Mn (Mi #[]))then b else false)]=[OD (yC t)])/\((MA t==1)=false->OB Tryz.prog (GG M) 225 [NZ (MI t)] λ(rs:ON D)=>∃(b:Bool),rs=[OD b]/\[OD (bif bif bif decide (MA t>=2)then decide (MA t<=7)else false then b else false then Ks t==0 else false)]=[OD (yC t)]))
 ·kernel_rfl
 have e0:Mm (Mn { data:= #[] })=([]:ON UInt8):=rfl;refine⟨λh=>?_,λh=>?_⟩
 ·refine(Ra t.n).mono ?_;rintro rs rfl;refine⟨_,rfl,?_⟩;simp only[beq_iff_eq]at h;simp only[yC,Nf h,zM,e0]
 ·refine(RS hM t.name hs).mono ?_;rintro rs rfl;refine⟨_,rfl,?_⟩;have h' :¬ t.kind=1:=by simpa using h
  simp only[yC,N2 h',zM,ge_iff_le]
def h31 (f:Fm):ON Box:=[.cells 85 (gY f)]
def rn (f:Fm) (t:Tm):Bool:= !yC t||(f.kind != 9&&t.kind != 2)
abbrev rl (a:Fm):ON Box:=[Ns 85 [.d (.int .i64 (NU a)),.d (.str (NG a)),.d (.int .i64 (NA a)),.d (.sl (OM Nc (NH a))),.d (.sl (OM N3 (NJ a))),.d (.sl (OM NX (Nt a)))]]
theorem QD (hM:M.Ok) (f:Fm) (t:Tm) (hs:t.name.length<=9223372036854775807):Nn Tryz.prog (GG M) 221 [.d t.d,.ptr 0 0] (h31 f) (λrs H'=>rs=[.bool (rn f t)]/\H'=h31 f):=by
 have h46:=QE hM t hs;unfold Nc at h46 ⊢;refine zF Tryz.func221 rfl ⟨_,_,rfl,rfl⟩ ?_;apply @z7 _ (OB Tryz.prog (GG M) 222 [NY [.int .i64 (MA t),.str (MI t),.int .i64 (Ks t)]] λ(rs:ON D)=>∃(b:Bool),rs=[OD b]/\[OD (bif !b then true else bif NU f != 9 then MA t != 2 else false)]=[OD (rn f t)]/\rl f=rl f)
 ·kernel_rfl
 delta rl;refine h46.mono ?_;rintro rs rfl;refine⟨_,rfl,?_,rfl⟩;simp only[rn,yi,zM]
abbrev bo (a:Nat) (b:ON Tm) (c:Fm):Prop:=a<=OJ b/\Lv (NW a b) (rn c)=false
abbrev YW (a:ON Tm) (b:Nat):D:=zk [NP .i64,NC,NP .i64] (OM Nc a) (N1 (b:Int))
abbrev gU (a:Int) (b:ON UInt8) (c:Int) (d:ON D) (e:ON D) (f:ON D):ON Box:=[Ns 85 [.d (.int .i64 a),.d (.str b),.d (.int .i64 c),.d (.sl d),.d (.sl e),.d (.sl f)]]
theorem QC (hM:M.Ok) (f:Fm) (ts:ON Tm) (hl:ts.length<4611686018427387904) (hs:∀t∈ts,t.name.length<=9223372036854775807): Nn Tryz.prog (GG M) 250 [.d (.sl (ts.map Nc)),.clo 221 [] [.ptr 0 0]] (h31 f) (λrs H'=>(∃r:Int,rs=[.int .i64 r]/\decide (r>=0)=ts.any (rn f))/\H'=h31 f):=by
 refine zg (LL [(2,zT (α:=Nat) Tryz.prog (GG M) L0 1 (zz (z6 Tryz.f250) 0) [0,1,7] (λi=>i<=ts.length/\(ts.take i).any (rn f)=false) (λi=>ts.length - i) (λi=>[(8,.d (.int .i64 i))]) (λH _=>H))]) Tryz.func250 rfl ⟨_,_,⟨if ts.any (rn f)then 0 else -1,rfl,by cases ts.any (rn f)<;>rfl⟩,rfl⟩ (zm zy) ?_;apply @z7 _ (∃(x0:Nat),bo x0 ts f/\((OM Nc ts=OM Nc ts/\Ml 221 [] [N5 0 0]=Ml 221 [] [N5 0 0]/\(↑(OJ (OM Nc ts)):Int)=(↑(OJ (OM Nc ts)):Int)/\(0:Int)=(x0:Int)/\OG)/\(NU f=NU f/\NG f=NG f/\NA f=NA f/\OM Nc (NH f)=OM Nc (NH f)/\OM N3 (NJ f)=OM N3 (NJ f)/\OM NX (Nt f)=OM NX (Nt f)/\OG)/\OG)/\∀(x:Nat),bo x ts f->(decide ((x:Int)<(↑(OJ (OM Nc ts)):Int))=true->((0:Int)<=(x:Int)/\(OM Nc ts)[N1 (x:Int)]? = some (YW ts x))/\Nn Tryz.prog (GG M) 221 [OF (YW ts x),.ptr 0 0] (rl f) λ(rs:ON D) (H':ON Box)=>∃(b:Bool),rs=[OD b]/\∃(n:Int)(s:ON UInt8)(n_1:Int)(l:ON D)(l_1:ON D)(l_2:ON D),H'=gU n s n_1 l l_1 l_2/\(b=true->(∃(r:Int),[OH .i64 (x:Int)]=[OH .i64 r]/\decide (r>=0)=Lv ts (rn f))/\gU n s n_1 l l_1 l_2=rl f)/\(b=false->∃(y:Nat),bo y ts f/\OJ ts - y<OJ ts - x/\(OM Nc ts=OM Nc ts/\Ml 221 [] [N5 0 0]=Ml 221 [] [N5 0 0]/\(↑(OJ (OM Nc ts)):Int)=(↑(OJ (OM Nc ts)):Int)/\Nl .i64 ((x:Int)+1)=(y:Int)/\OG)/\(n=NU f/\s=NG f/\n_1=NA f/\l=OM Nc (NH f)/\l_1=OM N3 (NJ f)/\l_2=OM NX (Nt f)/\OG)/\OG))/\(decide ((x:Int)<(↑(OJ (OM Nc ts)):Int))=false->(∃(r:Int),[OH .i64 (-1)]=[OH .i64 r]/\decide (r>=0)=Lv ts (rn f))/\rl f=rl f))
 ·kernel_rfl
 delta bo YW rl gU;refine⟨0,⟨by omega,rfl⟩,⟨⟨rfl,rfl,rfl,rfl,trivial⟩,⟨rfl,rfl,rfl,rfl,rfl,rfl,trivial⟩,trivial⟩,λi hi=>⟨λhlt=>?_,λhge=>?_⟩⟩
 ·simp only[Nv,NR]at hlt;obtain⟨z,hz,hm⟩:=zt (l:=ts) (x:=i) (by omega);rw[M1,jn hz];refine⟨⟨by omega,by simp[hz]⟩,?_⟩;refine(QD hM f z (hs z hm)).mono ?_;rintro rs H' ⟨rfl,rfl⟩;refine⟨_,rfl,_,_,_,_,_,_,rfl,λhb=>⟨⟨_,rfl,?_⟩,rfl⟩,λhb=>⟨i+1,⟨by omega,?_⟩,by omega,⟨rfl,rfl,rfl,?_,trivial⟩,⟨rfl,rfl,rfl,rfl,rfl,rfl,trivial⟩,trivial⟩⟩
  ·have:ts.any (rn f)=true:=Jb.2 ⟨z,hm,hb⟩;rw[this];simp
  ·rw[Lb,hz,Hl,hi.2];simpa using hb
  ·rw[zu (by omega) (by omega)];simp
 ·simp only[Nv,M2]at hge;have h2:=hi.2;rw[MY (by omega)]at h2;exact⟨⟨_,rfl,by rw[h2];rfl⟩,rfl⟩
theorem QB (hM:M.Ok) (f:Fm) (ts:ON Tm) (hl:ts.length<4611686018427387904) (hs:∀t∈ts,t.name.length<=9223372036854775807): Nn Tryz.prog (GG M) 223 [.d (.sl (ts.map Nc)),.clo 221 [] [.ptr 0 0]] (h31 f) (λrs H'=>rs=[.bool (ts.any (rn f))]/\H'=h31 f):=by
 refine zF Tryz.func223 rfl ⟨_,_,rfl,rfl⟩ ?_;apply @z7 _ (Nn Tryz.prog (GG M) 250 [OF (.sl (OM Nc ts)),.clo 221 [] [N5 0 0]] (rl f) λ(rs:ON D) (H':ON Box)=>∃(n:Int),rs=[OH .i64 n]/\∃(n_1:Int)(s:ON UInt8)(n_2:Int)(l:ON D)(l_1:ON D)(l_2:ON D),H'=gU n_1 s n_2 l l_1 l_2/\[OD (decide (n>=0))]=[OD (Lv ts (rn f))]/\gU n_1 s n_2 l l_1 l_2=rl f)
 ·kernel_rfl
 delta rl gU bo YW;refine(QC hM f ts hl hs).mono ?_;rintro rs H' ⟨⟨r,rfl,hr⟩,rfl⟩;exact⟨r,rfl,_,_,_,_,_,_,rfl,by rw[hr],rfl⟩
def p9 (b:Bd):Bool:= !bindB b
theorem QA (hM:M.Ok) (b:Bd) (hs:b.name.length<=9223372036854775807):OB Tryz.prog (GG M) 224 [b.d] (· = [.bool (p9 b)]):=by
 unfold N3;refine zn Tryz.func224 ⟨_,rfl⟩ ?_;apply @z7 _ (OB Tryz.prog (GG M) 225 [NZ (If b)] λ(rs:ON D)=>∃(b_1:Bool),rs=[OD b_1]/\[OD (bif bif !b_1 then true else decide (IC b<1)then true else decide (IC b>7))]=[OD (p9 b)])
 ·kernel_rfl
 refine(RS hM b.name hs).mono ?_;rintro rs rfl;refine⟨_,rfl,?_⟩;simp only[p9,bindB,yi];have e1:decide (b.sort<1) = !decide (1<=b.sort):=by rw[MG];simp
 have e2:decide (b.sort>7) = !decide (b.sort<=7):=by rw[MG];simp
 rw[e1,e2];cases yO b.name<;>cases decide (1<=b.sort)<;>cases decide (b.sort<=7)<;>rfl
abbrev YV (a:Nat) (b:ON Bd):Prop:=a<=OJ b/\Lv (NW a b) p9=false
abbrev Vm (a:ON Bd) (b:Nat):D:=zk [NC,NP .i64] (OM N3 a) (N1 (b:Int))
theorem P0 (hM:M.Ok) (bs:ON Bd) (hl:bs.length<4611686018427387904) (hs:∀t∈bs,t.name.length<=9223372036854775807): OB Tryz.prog (GG M) 188 [.sl (bs.map N3),.fn 224] (λrs=>∃r:Int,rs=[.int .i64 r]/\decide (r>=0)=bs.any p9):=by
 refine zr (LL [(2,zT (α:=Nat) Tryz.prog (GG M) L0 0 (zz (z6 Tryz.f188) 0) [0,1,7] (λi=>i<=bs.length/\(bs.take i).any p9=false) (λi=>bs.length - i) (λi=>[(8,.d (.int .i64 i))]) (λH _=>H))]) Tryz.func188 ⟨_,if bs.any p9 then 0 else -1,rfl,by cases bs.any p9<;>rfl⟩ (zm zy) ?_;apply @z7 _ (∃(x0:Nat),YV x0 bs/\((OM N3 bs=OM N3 bs/\OF (.fn 224)=OF (.fn 224)/\(↑(OJ (OM N3 bs)):Int)=(↑(OJ (OM N3 bs)):Int)/\(0:Int)=(x0:Int)/\OG)/\OG)/\∀(x:Nat),YV x bs->(decide ((x:Int)<(↑(OJ (OM N3 bs)):Int))=true->((0:Int)<=(x:Int)/\(OM N3 bs)[N1 (x:Int)]? = some (Vm bs x))/\OB Tryz.prog (GG M) 224 [Vm bs x] λ(rs:ON D)=>∃(b:Bool),rs=[OD b]/\(b=true->∃(r:Int),[OH .i64 (x:Int)]=[OH .i64 r]/\decide (r>=0)=Lv bs p9)/\(b=false->∃(y:Nat),YV y bs/\OJ bs - y<OJ bs - x/\(OM N3 bs=OM N3 bs/\OF (.fn 224)=OF (.fn 224)/\(↑(OJ (OM N3 bs)):Int)=(↑(OJ (OM N3 bs)):Int)/\Nl .i64 ((x:Int)+1) = (y:Int)/\OG)/\OG))/\(decide ((x:Int)<(↑(OJ (OM N3 bs)):Int))=false->∃(r:Int),[OH .i64 (-1)]=[OH .i64 r]/\decide (r>=0)=Lv bs p9))
 ·kernel_rfl
 delta YV Vm;refine⟨0,⟨by omega,rfl⟩,by simp,λi hi=>⟨λhlt=>?_,λhge=>?_⟩⟩
 ·simp only[Nv,NR]at hlt;obtain⟨z,hz,hm⟩:=zt (l:=bs) (x:=i) (by omega);rw[M1,tt hz];refine⟨⟨by omega,by simp[hz]⟩,?_⟩;refine(QA hM z (hs z hm)).mono ?_;rintro rs rfl;refine⟨_,rfl,λhb=>⟨_,rfl,?_⟩,λhb=>⟨i+1,⟨by omega,?_⟩,by omega,?_⟩⟩
  ·have:bs.any p9=true:=Jb.2 ⟨z,hm,hb⟩;rw[this];simp
  ·rw[Lb,hz,Hl,hi.2];simpa using hb
  ·rw[zu (by omega) (by omega)];simp
 ·simp only[Nv,M2]at hge;have h2:=hi.2;rw[MY (by omega)]at h2;exact⟨_,rfl,by rw[h2];rfl⟩
theorem P1 (hM:M.Ok) (bs:ON Bd) (hl:bs.length<4611686018427387904) (hs:∀t∈bs,t.name.length<=9223372036854775807): OB Tryz.prog (GG M) 152 [.sl (bs.map N3),.fn 224] (· = [.bool (bs.any p9)]):=by
 refine zn Tryz.func152 ⟨_,rfl⟩ ?_;apply @z7 _ (OB Tryz.prog (GG M) 188 [OE (OM N3 bs),.fn 224] λ(rs:ON D)=>∃(n:Int),rs=[OH .i64 n]/\[OD (decide (n>=0))]=[OD (Lv bs p9)])
 ·kernel_rfl
 refine(P0 hM bs hl hs).mono ?_;rintro rs ⟨r,rfl,hr⟩;exact⟨r,rfl,by rw[hr]⟩
def TN (f:Fm):Bool := !(arL.lookup f.kind).isSome||((f.l.length:Int) != (arL.lookup f.kind).getD 0)||(((f.ts.length:Int) != 0)&& !y7 f.kind)||(((f.bs.length:Int) != 0)&& !yj f.kind)||((f.n != 0)&& !xZ f.kind)||((!(f.name==[]))&&f.kind != 9)
def TM (f:Fm):Bool:=f.kind==9&&(siL.lookup f.name).getD []==[]
def gT (f:Fm):Bool:=if y7 f.kind then((f.ts.length:Int)==2)&& !f.ts.any (rn f)else if yj f.kind then decide ((f.bs.length:Int)>0)&&decide ((f.bs.length:Int)<=6)&& !f.bs.any p9&&bx f.n else true
theorem Vl (bs:ON Bd):(!bs.any p9)=bs.all bindB:=by
 induction bs with
 |nil=>rfl
 |cons b r ih=>simp only[K7,J7,Bool.not_or,ih,p9,Bool.not_not]
theorem XO (s:ON UInt8):((siL.lookup s).getD []==[]) = !lm s:=by
 unfold siL lm;simp only[IM];by_cases h1:s=[33,61]
 ·subst h1;rfl
 by_cases h2:s=[60]
 ·subst h2;rfl
 by_cases h3:s=[60,61]
 ·subst h3;rfl
 by_cases h4:s=[61]
 ·subst h4;rfl
 by_cases h5:s=[62]
 ·subst h5;rfl
 by_cases h6:s=[62,61]
 ·subst h6;rfl
 simp only[beq_eq_false_iff_ne.2 h1,beq_eq_false_iff_ne.2 h2,beq_eq_false_iff_ne.2 h3,beq_eq_false_iff_ne.2 h4,beq_eq_false_iff_ne.2 h5,beq_eq_false_iff_ne.2 h6];rfl
end
open Go.Fo.Maps renaming ar->D7
theorem So {α:Type}{l:ON α}(h:l.length=2):∃x y,l=[x,y]:=by
 match l,h with
 |[x,y],_=>exact⟨x,y,rfl⟩
theorem Vk (f:Fm) (a b:Tm):(!([a,b].any (rn f)))=(yC a&&yC b&&(f.kind==9||a.kind==2&&b.kind==2)):=by simp only[K7,Hf,rn,bne];cases yC a<;>cases yC b<;>cases (f.kind==9)<;>cases (a.kind==2)<;>cases (b.kind==2)<;>rfl
theorem XN (f:Fm):(!TN f&& !TM f&&gT f)=xx f:=by
 have hodd:=Vk f;unfold TN TM gT xx pP jl;simp only[XO,Vl];generalize rn f=od at *;generalize f.kind=k at *;generalize f.name=s;generalize f.n=n;generalize f.ts=ts;generalize f.bs=bs;generalize f.l=l;have hc:k=1∨k=2∨(k=3∨k=4∨k=5∨k=6∨k=7∨k=8)∨k=9∨k=10∨(k=11∨k=12∨k=13)∨(k=14∨k=15)∨(k=16∨k=17)∨(k<1∨17<k):=by omega
 have e0:∀{α:Type}(l:ON α),((l.length:Int) != 0) = !l.isEmpty:=λl=>by cases l<;>rfl
 rcases hc with hk|hk|hk|hk|hk|hk|hk|hk|hk
 ·subst hk;have h1:arL.lookup 1=some 0:=rfl;have h2:y7 1=false:=rfl;have h3:yj 1=false:=rfl;have h4:xZ 1=false:=rfl;have h5:yb 1=0:=rfl;simp only[h1,h2,h3,h4,h5,e0,Js,Li,bne];cases ts<;>cases bs<;>cases (n==0)<;>cases (s==[])<;>cases ((l.length:Int)==0)<;>rfl
 ·subst hk;have h1:arL.lookup 2=some 0:=rfl;have h2:y7 2=false:=rfl;have h3:yj 2=false:=rfl;have h4:xZ 2=false:=rfl;have h5:yb 2=0:=rfl;simp only[h1,h2,h3,h4,h5,e0,Js,Li,bne];cases ts<;>cases bs<;>cases (n==0)<;>cases (s==[])<;>cases ((l.length:Int)==0)<;>rfl
 ·have h1:arL.lookup k=some 0:=by rcases hk with rfl|rfl|rfl|rfl|rfl|rfl<;>rfl
  have h2:y7 k=true:=by rcases hk with rfl|rfl|rfl|rfl|rfl|rfl<;>rfl
  have h3:yj k=false:=by rcases hk with rfl|rfl|rfl|rfl|rfl|rfl<;>rfl
  have h4:xZ k=false:=by rcases hk with rfl|rfl|rfl|rfl|rfl|rfl<;>rfl
  have h5:yb k=0:=by rcases hk with rfl|rfl|rfl|rfl|rfl|rfl<;>rfl
  have h9:(k==9)=false:=by rcases hk with rfl|rfl|rfl|rfl|rfl|rfl<;>rfl
  have h9' :¬ k=9:=by omega
  simp only[h1,h2,h3,h4,h5,e0,Js,Li,bne,if_true,h9,h9',if_false];rcases KN (ts.length=2)with ht|ht
  ·obtain⟨a,b,rfl⟩:=So ht;rw[hodd];simp only[h9];have e1:(([a,b]:ON Tm).length:Int)=2:=rfl;have ta:vH [a,b] 0=a:=rfl;have tb:vH [a,b] 1=b:=rfl;simp only[e1,ta,tb,h9',if_false];cases bs<;>cases (n==0)<;>cases (s==[])<;>cases ((l.length:Int)==0)<;>cases yC a<;>cases yC b<;>cases (a.kind==2)<;>cases (b.kind==2)<;>rfl
  ·have e1:((ts.length:Int)==2)=false:=by simp;omega
   simp only[e1,ht,decide_false,JY,IS]
 ·subst hk;have h1:arL.lookup 9=some 0:=rfl;have h2:y7 9=true:=rfl;have h3:yj 9=false:=rfl;have h4:xZ 9=false:=rfl;have h5:yb 9=0:=rfl;have h9:((9:Int)==9)=true:=rfl;simp only[h1,h2,h3,h4,h5,e0,Js,Li,bne,if_true,h9];rcases KN (ts.length=2)with ht|ht
  ·obtain⟨a,b,rfl⟩:=So ht;rw[hodd];simp only[h9];have e1:(([a,b]:ON Tm).length:Int)=2:=rfl;have ta:vH [a,b] 0=a:=rfl;have tb:vH [a,b] 1=b:=rfl;simp only[e1,ta,tb];cases bs<;>cases (n==0)<;>cases (s==[])<;>cases ((l.length:Int)==0)<;>cases yC a<;>cases yC b<;>cases lm s<;>rfl
  ·have e1:((ts.length:Int)==2)=false:=by simp;omega
   simp only[e1,ht,decide_false,JY,IS]
 ·subst hk;have h1:arL.lookup 10=some 1:=rfl;have h2:y7 10=false:=rfl;have h3:yj 10=false:=rfl;have h4:xZ 10=false:=rfl;have h5:yb 10=1:=rfl;simp only[h1,h2,h3,h4,h5,e0,Js,Li,bne];cases ts<;>cases bs<;>cases (n==0)<;>cases (s==[])<;>cases ((l.length:Int)==1)<;>rfl
 ·have h1:arL.lookup k=some 2:=by rcases hk with rfl|rfl|rfl<;>rfl
  have h2:y7 k=false:=by rcases hk with rfl|rfl|rfl<;>rfl
  have h3:yj k=false:=by rcases hk with rfl|rfl|rfl<;>rfl
  have h4:xZ k=false:=by rcases hk with rfl|rfl|rfl<;>rfl
  have h5:yb k=2:=by rcases hk with rfl|rfl|rfl<;>rfl
  have h9:(k==9)=false:=by rcases hk with rfl|rfl|rfl<;>rfl
  simp only[h1,h2,h3,h4,h5,e0,Js,Li,bne,h9];cases ts<;>cases bs<;>cases (n==0)<;>cases (s==[])<;>cases ((l.length:Int)==2)<;>rfl
 ·have h1:arL.lookup k=some 1:=by rcases hk with rfl|rfl<;>rfl
  have h2:y7 k=false:=by rcases hk with rfl|rfl<;>rfl
  have h3:yj k=true:=by rcases hk with rfl|rfl<;>rfl
  have h4:xZ k=false:=by rcases hk with rfl|rfl<;>rfl
  have h5:yb k=1:=by rcases hk with rfl|rfl<;>rfl
  have h9:(k==9)=false:=by rcases hk with rfl|rfl<;>rfl
  have e1:decide ((bs.length:Int)>0)=decide (1<=bs.length):=by rw[MG];simp;omega
  have e2:decide ((bs.length:Int)<=6)=decide (bs.length<=6):=by rw[MG];simp;omega
  have e3:(n==0)=true->bx n=true:=λh=>by simp at h;subst h;rfl
  rw[e1,e2];simp only[h1,h2,h3,h4,h5,Js,Li,bne,h9,if_true];generalize ((bs.length:Int)==0)=z0;cases hn:(n==0)with
  |true =>
   rw[e3 hn];cases z0<;>cases ts<;>cases (s==[])<;>cases ((l.length:Int)==1)<;>cases bs.all bindB<;>cases decide (1<=bs.length)<;>cases decide (bs.length<=6)<;>rfl
  |false =>
   cases z0<;>cases ts<;>cases (s==[])<;>cases ((l.length:Int)==1)<;>cases bs.all bindB<;>cases decide (1<=bs.length)<;>cases decide (bs.length<=6)<;>rfl
 ·have h1:arL.lookup k=some 1:=by rcases hk with rfl|rfl<;>rfl
  have h2:y7 k=false:=by rcases hk with rfl|rfl<;>rfl
  have h3:yj k=true:=by rcases hk with rfl|rfl<;>rfl
  have h4:xZ k=true:=by rcases hk with rfl|rfl<;>rfl
  have h5:yb k=1:=by rcases hk with rfl|rfl<;>rfl
  have h9:(k==9)=false:=by rcases hk with rfl|rfl<;>rfl
  have e1:decide ((bs.length:Int)>0)=decide (1<=bs.length):=by rw[MG];simp;omega
  have e2:decide ((bs.length:Int)<=6)=decide (bs.length<=6):=by rw[MG];simp;omega
  have e3:bx n=(n==0||(decide (0<n)&&decide (n<=1099511627776))):=by rw[MG];simp[bx];omega
  rw[e1,e2,e3];simp only[h1,h2,h3,h4,h5,Js,Li,bne,h9,if_true];generalize ((bs.length:Int)==0)=z0;cases (n==0)<;>cases z0<;>cases ts<;>cases (s==[])<;>cases ((l.length:Int)==1)<;>cases bs.all bindB<;>cases decide (1<=bs.length)<;>cases decide (bs.length<=6)<;>cases decide (0<n)<;>cases decide (n<=1099511627776)<;>rfl
 ·have h1:arL.lookup k=none:=by unfold arL;simp only[IM];simp only[(beq_eq_false_iff_ne.2 (by omega):(k==1)=false),(beq_eq_false_iff_ne.2 (by omega):(k==2)=false),(beq_eq_false_iff_ne.2 (by omega):(k==3)=false),(beq_eq_false_iff_ne.2 (by omega):(k==4)=false),(beq_eq_false_iff_ne.2 (by omega):(k==5)=false),(beq_eq_false_iff_ne.2 (by omega):(k==6)=false),(beq_eq_false_iff_ne.2 (by omega):(k==7)=false),(beq_eq_false_iff_ne.2 (by omega):(k==8)=false),(beq_eq_false_iff_ne.2 (by omega):(k==9)=false),(beq_eq_false_iff_ne.2 (by omega):(k==10)=false),(beq_eq_false_iff_ne.2 (by omega):(k==11)=false),(beq_eq_false_iff_ne.2 (by omega):(k==12)=false),(beq_eq_false_iff_ne.2 (by omega):(k==13)=false),(beq_eq_false_iff_ne.2 (by omega):(k==14)=false),(beq_eq_false_iff_ne.2 (by omega):(k==15)=false),(beq_eq_false_iff_ne.2 (by omega):(k==16)=false),(beq_eq_false_iff_ne.2 (by omega):(k==17)=false)]
  have h5:yb k = -1:=by unfold yb;rw[N2 (by omega),N2 (by omega),N2];simp only[y7,NK,NR];omega
  have h6:((l.length:Int) == -1)=false:=by simp
  simp only[h1,h5,h6,OK.isSome_none,Gw,Bool.true_or,K6,JY]
section
variable {M:Maps}
abbrev gS (a:Fm):D:=OH .i64 (NU a)
abbrev gR (a:Fm):ON D:=[gS a]
abbrev oG (a:ON D) (b:Bool):Prop:=a=[OD b]
abbrev YU (a:Fm):Int:=(↑(OJ (OM N3 (NJ a))):Int)
abbrev f31q10:ON UInt8:=Mm (Mn (Mi #[]))
abbrev Vj (a:Maps) (b:Fm) (c:Bool) (d:Bool) (e:Bool):Bool:=bif bif bif bif bif !IR (zX (D7 a) (gS b))then true else(↑(OJ (OM NX (Nt b))):Int) != NO (Nz (zX (D7 a) (gS b)) (OH .i64 0))then true else bif (↑(OJ (OM Nc (NH b))):Int) != 0 then !c else false then true else bif YU b != 0 then !d else false then true else bif NA b != 0 then !e else false then true else bif !NG b==f31q10 then NU b != 9 else false
abbrev bn (a:Fm):ON D:=[OD (!TN a&& !TM a&&gT a)]
abbrev Vi (a:Fm):Prop:=[OD false]=bn a
abbrev Vh (a:Fm) (b:Maps):Bool:=bif NU a==9 then MJ (Nz (zX (Maps.si b) (NZ (NG a))) (NZ f31q10))==f31q10 else false
abbrev Vg (a:Fm):ON Box:=[Ns 85 [.d (gS a),.d (.str (NG a)),.d (.int .i64 (NA a)),.d (.sl (OM Nc (NH a))),.d (.sl (OM N3 (NJ a))),.d (.sl (OM NX (Nt a)))]]
theorem P2 (hM:M.Ok) (f:Fm) (hf:f.wt<4611686018427387904):OB Tryz.prog (GG M) 190 [f.d] (· = [.bool (xx f)]):=by
 have hw:=f.wt_eq;have hts:=Fm.ts_len hf;have hbs:=Fm.bs_len hf;rw[yK,←XN];refine zn Tryz.func190 ⟨_,rfl⟩ ?_;apply @z7 _ ((LV (D7 M) λ(kv:D×D)=>sameKind (gS f) (N7 kv)&&L2 (NP .i64) (NV kv))=true/\OB Tryz.prog (GG M) 218 (gR f) λ(rs:ON D)=>∃(b:Bool),oG rs b/\OB Tryz.prog (GG M) 219 (gR f) λ(rs:ON D)=>∃(b_1:Bool),oG rs b_1/\OB Tryz.prog (GG M) 220 (gR f) λ(rs:ON D)=>∃(b_2:Bool),oG rs b_2/\(Vj M f b b_1 b_2=true->Vi f)/\(Vj M f b b_1 b_2=false->((NU f==9)=true->(LV (Maps.si M) λ(kv:D×D)=>sameKind (NZ (NG f)) (N7 kv)&&L2 NC (NV kv))=true)/\(Vh f M=true->Vi f)/\(Vh f M=false->OB Tryz.prog (GG M) 218 (gR f) λ(rs:ON D)=>∃(b:Bool),oG rs b/\(b=true->Nn Tryz.prog (GG M) 223 [OF (.sl (OM Nc (NH f))),.clo 221 [] [N5 0 0]] (Vg f) λ(rs:ON D) (H':ON Box)=>H' = Vg f/\∃(b:Bool),oG rs b/\[OD (bif (↑(OJ (OM Nc (NH f))):Int)==2 then !b else false)]=bn f)/\(b=false->OB Tryz.prog (GG M) 219 (gR f) λ(rs:ON D)=>∃(b:Bool),oG rs b/\(b=true->OB Tryz.prog (GG M) 152 [OE (OM N3 (NJ f)),.fn 224] λ(rs:ON D)=>∃(b:Bool),oG rs b/\OB Tryz.prog (GG M) 226 [OH .i64 (NA f)] λ(rs:ON D)=>∃(b_3:Bool),oG rs b_3/\[OD (bif bif bif decide (YU f>0)then decide (YU f<=6)else false then !b else false then b_3 else false)]=bn f)/\(b=false->[OD true]=bn f)))))
 ·kernel_rfl
 delta gS gR oG Vj YU f31q10 Vi bn Vh Vg;have e0:Mm (Mn { data:= #[] })=([]:ON UInt8):=rfl;refine⟨by simp only[oH f.kind];exact hM.arA,?_⟩;refine(Rc f.kind).mono ?_;rintro rs rfl;refine⟨_,rfl,?_⟩;refine(Rb f.kind).mono ?_;rintro rs rfl;refine⟨_,rfl,?_⟩;refine(QJ f.kind).mono ?_;rintro rs rfl;refine⟨_,rfl,?_⟩;have ea:IR (zX M.ar (.int .i64 f.kind))=(arL.lookup f.kind).isSome:=by rw[hM.arG];cases arL.lookup f.kind<;>rfl
 have eb:NO (Nz (zX M.ar (.int .i64 f.kind)) (.int .i64 0))=(arL.lookup f.kind).getD 0:=by rw[hM.arG];cases arL.lookup f.kind<;>rfl
 have ec:MJ (Nz (zX M.si (.str f.name)) (.str []))=(siL.lookup f.name).getD []:=by rw[hM.siG];cases siL.lookup f.name<;>rfl
 simp only[e0,ea,eb,ec,Nv,yi,zM];rw[show(!(arL.lookup f.kind).isSome||(f.l.length:Int) != (arL.lookup f.kind).getD 0||((f.ts.length:Int) != 0)&& !y7 f.kind||((f.bs.length:Int) != 0)&& !yj f.kind||f.n != 0&& !xZ f.kind||(!(f.name==[]))&&f.kind != 9)=TN f from rfl];rw[show(f.kind==9&&(siL.lookup f.name).getD []==[])=TM f from rfl];refine⟨λh=>by rw[h];rfl,λh=>⟨λ_=>by simp only[jk f.name];exact hM.siA,λh1=>by rw[h1];simp,λh1=>?_⟩⟩;rw[h,h1];simp only[Gw,JV];refine(Rc f.kind).mono ?_;rintro rs rfl;refine⟨_,rfl,λha=>?_,λha=>?_⟩
 ·refine(QB hM f f.ts (by omega) (λt ht=>by have:=hts t ht;omega)).mono ?_;rintro rs H' ⟨rfl,rfl⟩;refine⟨rfl,_,rfl,?_⟩;simp only[gT,ha,if_true]
 ·refine(Rb f.kind).mono ?_;rintro rs rfl;refine⟨_,rfl,λhq=>?_,λhq=>?_⟩
  ·refine(P1 hM f.bs (by omega) (λt ht=>by have:=hbs t ht;omega)).mono ?_;rintro rs rfl;refine⟨_,rfl,?_⟩;refine(Ra f.n).mono ?_;rintro rs rfl;refine⟨_,rfl,?_⟩;simp only[gT,ha,hq,if_true,LH,if_false]
  ·simp only[gT,ha,hq,LH,if_false]
end
def c13:Np:=unScope (zz (z6 Tryz.f153) 0)
def tm13:ON AV:=[.any,.any,.ptr 1 0,.any,.any,.any,.any,.any,.any,.any,.any,.any,.any,.any,.any,.any,.any,.any]
def h13 (f0:Fm) (ok:Bool):ON Box:=[.cells 85 (gY f0),.cells 43 [.d (.int .i64 (if ok then 0 else 1))],.loop tm13 (ze c13) (zo c13) (zc c13) (if ok then none else some .ret) (if ok then .ready else .done)]
def TL (f0:Fm):ON Box:=[.cells 85 (gY f0),.cells 43 [.d (.int .i64 0)],.loop tm13 (ze c13) (zo c13) (zc c13) none .ready]
section
variable {M:Maps}
theorem RR (hM:M.Ok) (f0 x:Fm) (hx:x.wt<4611686018427387904):Mo Tryz.prog (GG M) 2 [.d x.d] (TL f0) (λrs H'=>rs=[.bool (xx x)]/\H'=h13 f0 (xx x)):=by
 have h31:=P2 hM x hx;rw[yK]at h31 ⊢;refine Jl (tm:=tm13) (ps:=ze c13) (asn:=zo c13) (bd:=zc c13) mixed L0 rfl (by kernel_rfl) rfl rfl ⟨_,_,rfl,rfl⟩ (λ_=>nC (by kernel_rfl)) (λ_=>nC (by kernel_rfl)) ?_;apply @z7 _ (OB Tryz.prog (GG M) (190:Nat) [NY [OH Nq (NU x),NZ (NG x),OH Nq (NA x),OE (OM Nc (NH x)),OE (OM N3 (NJ x)),OE (OM NX (Nt x))]] λ(rs:ON D)=>∃(b:Bool),rs=[OD b]/\((!b)=true->[OD false]=[OD (xx x)]/\[Ns (85:Nat) [OF (OH Nq (NU f0)),OF (NZ (NG f0)),OF (OH Nq (NA f0)),OF (OE (OM Nc (NH f0))),OF (OE (OM N3 (NJ f0))),OF (OE (OM NX (Nt f0)))],Ns (43:Nat) [OF (OH Nq (1:Int))],M7 [OI,OI,N5 (1:Nat) (0:Nat),OI,OI,OI,OI,OI,OI,OI,OI,OI,OI,OI,OI,OI,OI,OI] (ze c13) (zo c13) (zc c13) (some Lg) J4]=[Ns (85:Nat) [OF (OH Nq (NU f0)),OF (NZ (NG f0)),OF (OH Nq (NA f0)),OF (OE (OM Nc (NH f0))),OF (OE (OM N3 (NJ f0))),OF (OE (OM NX (Nt f0)))],Ns (43:Nat) [OF (OH Nq (if xx x=true then(0:Int)else(1:Int)))],M7 [OI,OI,N5 (1:Nat) (0:Nat),OI,OI,OI,OI,OI,OI,OI,OI,OI,OI,OI,OI,OI,OI,OI] (ze c13) (zo c13) (zc c13) (if xx x=true then none else some Lg) (if xx x=true then Mg else J4)])/\((!b)=false->[OD true]=[OD (xx x)]/\[Ns (85:Nat) [OF (OH Nq (NU f0)),OF (NZ (NG f0)),OF (OH Nq (NA f0)),OF (OE (OM Nc (NH f0))),OF (OE (OM N3 (NJ f0))),OF (OE (OM NX (Nt f0)))],Ns (43:Nat) [OF (OH Nq (0:Int))],M7 [OI,OI,N5 (1:Nat) (0:Nat),OI,OI,OI,OI,OI,OI,OI,OI,OI,OI,OI,OI,OI,OI,OI] (ze c13) (zo c13) (zc c13) none Mg]=[Ns (85:Nat) [OF (OH Nq (NU f0)),OF (NZ (NG f0)),OF (OH Nq (NA f0)),OF (OE (OM Nc (NH f0))),OF (OE (OM N3 (NJ f0))),OF (OE (OM NX (Nt f0)))],Ns (43:Nat) [OF (OH Nq (if xx x=true then(0:Int)else(1:Int)))],M7 [OI,OI,N5 (1:Nat) (0:Nat),OI,OI,OI,OI,OI,OI,OI,OI,OI,OI,OI,OI,OI,OI,OI] (ze c13) (zo c13) (zc c13) (if xx x = true then none else some Lg) (if xx x=true then Mg else J4)]))
 ·kernel_rfl
 refine h31.mono ?_;rintro rs rfl;refine⟨_,rfl,λh=>?_,λh=>?_⟩
 ·have e:xx x=false:=by simpa using h
  rw[e];exact⟨rfl,rfl⟩
 ·have e:xx x=true:=by simpa using h
  rw[e];exact⟨rfl,rfl⟩
theorem RQ (hM:M.Ok) (f0 x:Fm) (hx:x.wt<4611686018427387904):Nn Tryz.prog (GG M) 217 [.d x.d,.yld 2] (TL f0) (λrs H'=>rs=[.bool x.formB]/\H'=h13 f0 x.formB):=by
 induction x using KY with
 |h x ih =>
 have hw:=x.wt_eq;have hl:=oI x.l;have hy:=RR hM f0 x hx;rw[yK]at hy ⊢;refine zg (LL [(4,zT (α:=Nat) Tryz.prog (GG M) L0 3 (zz (z6 Tryz.f217) 0) [1,2,12,13] (λi=>i<=x.l.length/\xx x=true/\(x.l.take i).all Lw=true) (λi=>x.l.length - i) (λi=>[(14,.d (.int .i64 i))]) (λH i=>TL f0++H.drop 3))]) Tryz.func217 rfl ⟨_,_,rfl,rfl⟩ (zm zy) ?_;apply @z7 _ (Mo Tryz.prog (GG M) (2:Nat) [OF (NY [OH Nq (NU x),NZ (NG x),OH Nq (NA x),OE (OM Nc (NH x)),OE (OM N3 (NJ x)),OE (OM NX (Nt x))])] [Ns (85:Nat) [OF (OH Nq (NU f0)),OF (NZ (NG f0)),OF (OH Nq (NA f0)),OF (OE (OM Nc (NH f0))),OF (OE (OM N3 (NJ f0))),OF (OE (OM NX (Nt f0)))],Ns (43:Nat) [OF (OH Nq (0:Int))],M7 [OI,OI,N5 (1:Nat) (0:Nat),OI,OI,OI,OI,OI,OI,OI,OI,OI,OI,OI,OI,OI,OI,OI] (ze c13) (zo c13) (zc c13) none Mg] λ(rs:ON D) (H':ON Box)=>∃(b:Bool),rs=[OD b]/\∃(n:Int)(s:ON UInt8)(n_1:Int)(l:ON D)(l_1: ON D)(l_2:ON D)(n_2:Int)(pend:OK Np)(st:NQ),H'=[Ns (85:Nat) [OF (OH Nq n),OF (NZ s),OF (OH Nq n_1),OF (OE l),OF (OE l_1),OF (OE l_2)],Ns (43:Nat) [OF (OH Nq n_2)],M7 [OI,OI,N5 (1:Nat) (0:Nat),OI,OI,OI,OI,OI,OI,OI,OI,OI,OI,OI,OI,OI,OI,OI] (ze c13) (zo c13) (zc c13) pend st]/\((!b)=true->[OD false]=[OD (Lw x)]/\[Ns (85:Nat) [OF (OH Nq n),OF (NZ s),OF (OH Nq n_1),OF (OE l),OF (OE l_1),OF (OE l_2)],Ns (43:Nat) [OF (OH Nq n_2)],M7 [OI,OI,N5 (1:Nat) (0:Nat),OI,OI,OI,OI,OI,OI,OI,OI,OI,OI,OI,OI,OI,OI,OI] (ze c13) (zo c13) (zc c13) pend st]=[Ns (85:Nat) [OF (OH Nq (NU f0)),OF (NZ (NG f0)),OF (OH Nq (NA f0)),OF (OE (OM Nc (NH f0))),OF (OE (OM N3 (NJ f0))),OF (OE (OM NX (Nt f0)))],Ns (43:Nat) [OF (OH Nq (if Lw x=true then(0:Int)else(1:Int)))],M7 [OI,OI,N5 (1:Nat) (0:Nat),OI,OI,OI,OI,OI,OI,OI,OI,OI,OI,OI,OI,OI,OI,OI] (ze c13) (zo c13) (zc c13) (if Lw x=true then none else some Lg) (if Lw x=true then Mg else J4)])/\((!b)=false->∃(x0:Nat),(x0<=OJ (Nt x)/\xx x=true/\LV (NW x0 (Nt x)) Lw=true)/\((NE (2:Nat)=NE (2:Nat)/\N5 (3:Nat) (0:Nat)=N5 (3:Nat) (0:Nat)/\OM NX (Nt x)=OM NX (Nt x)/\(↑(OJ (OM NX (Nt x))):Int)=(↑(OJ (OM NX (Nt x))):Int)/\(0:Int)=(x0:Int)/\OG)/\(n=NU f0/\s=NG f0/\n_1=NA f0/\l=OM Nc (NH f0)/\l_1=OM N3 (NJ f0)/\l_2=OM NX (Nt f0)/\OG)/\(n_2=(0:Int)/\OG)/\M7 [OI,OI,N5 (1:Nat) (0:Nat),OI,OI,OI,OI,OI,OI,OI,OI,OI,OI,OI,OI,OI,OI,OI] (ze c13) (zo c13) (zc c13) pend st=M7 [OI,OI,N5 (1:Nat) (0:Nat),OI,OI,OI,OI,OI,OI,OI,OI,OI,OI,OI,OI,OI,OI,OI] (ze c13) (zo c13) (zc c13) none Mg/\(NU x=NU x/\NG x=NG x/\NA x=NA x/\OM Nc (NH x)=OM Nc (NH x)/\OM N3 (NJ x)=OM N3 (NJ x)/\OM NX (Nt x)=OM NX (Nt x)/\OG)/\OG)/\∀(x_1:Nat),x_1<=OJ (Nt x)/\xx x=true/\LV (NW x_1 (Nt x)) Lw=true->(decide ((x_1:Int)<(↑(OJ (OM NX (Nt x))):Int))=true->((0:Int)<=(x_1:Int)/\(OM NX (Nt x))[N1 (x_1:Int)]? = some (zk [NP Nq,NC,NP Nq,NB,NB,NB] (OM NX (Nt x)) (N1 (x_1:Int))))/\Nn Tryz.prog (GG M) (217:Nat) [OF (zk [NP Nq,NC,NP Nq,NB,NB,NB] (OM NX (Nt x)) (N1 (x_1:Int))),NE (2:Nat)] [Ns (85:Nat) [OF (OH Nq (NU f0)),OF (NZ (NG f0)),OF (OH Nq (NA f0)),OF (OE (OM Nc (NH f0))),OF (OE (OM N3 (NJ f0))),OF (OE (OM NX (Nt f0)))],Ns (43:Nat) [OF (OH Nq (0:Int))],M7 [OI,OI,N5 (1:Nat) (0:Nat),OI,OI,OI,OI,OI,OI,OI,OI,OI,OI,OI,OI,OI,OI,OI] (ze c13) (zo c13) (zc c13) none Mg] λ(rs:ON D) (H':ON Box)=>∃(b:Bool),rs=[OD b]/\∃(n:Int)(s:ON UInt8)(n_3:Int)(l:ON D)(l_3:ON D)(l_4:ON D)(n_4:Int)(pend:OK Np)(st:NQ),H'=[Ns (85:Nat) [OF (OH Nq n),OF (NZ s),OF (OH Nq n_3),OF (OE l),OF (OE l_3),OF (OE l_4)],Ns (43: Nat) [OF (OH Nq n_4)],M7 [OI,OI,N5 (1:Nat) (0:Nat),OI,OI,OI,OI,OI,OI,OI,OI,OI,OI,OI,OI,OI,OI,OI] (ze c13) (zo c13) (zc c13) pend st]/\((!b)=true->[OD false]=[OD (Lw x)]/\[Ns (85:Nat) [OF (OH Nq n),OF (NZ s),OF (OH Nq n_3),OF (OE l),OF (OE l_3),OF (OE l_4)],Ns (43:Nat) [OF (OH Nq n_4)],M7 [OI,OI,N5 (1:Nat) (0:Nat),OI,OI,OI,OI,OI,OI,OI,OI,OI,OI,OI,OI,OI,OI,OI] (ze c13) (zo c13) (zc c13) pend st]=[Ns (85:Nat) [OF (OH Nq (NU f0)),OF (NZ (NG f0)),OF (OH Nq (NA f0)),OF (OE (OM Nc (NH f0))),OF (OE (OM N3 (NJ f0))),OF (OE (OM NX (Nt f0)))],Ns (43:Nat) [OF (OH Nq (if Lw x=true then(0:Int)else(1:Int)))],M7 [OI,OI,N5 (1:Nat) (0:Nat),OI,OI,OI,OI,OI,OI,OI,OI,OI,OI,OI,OI,OI,OI,OI] (ze c13) (zo c13) (zc c13) (if Lw x=true then none else some Lg) (if Lw x=true then Mg else J4)])/\((!b)=false->∃(y:Nat),(y<=OJ (Nt x)/\xx x=true/\LV (NW y (Nt x)) Lw=true)/\OJ (Nt x) - y<OJ (Nt x) - x_1/\(NE (2:Nat)=NE (2:Nat)/\N5 (3:Nat) (0:Nat)=N5 (3:Nat) (0:Nat)/\OM NX (Nt x)=OM NX (Nt x)/\(↑(OJ (OM NX (Nt x))):Int) = (↑(OJ (OM NX (Nt x))):Int)/\Nl Nq ((x_1:Int)+(1:Int))=(y:Int)/\OG)/\(n=NU f0/\s=NG f0/\n_3=NA f0/\l=OM Nc (NH f0)/\l_3=OM N3 (NJ f0)/\l_4=OM NX (Nt f0)/\OG)/\(n_4=(0:Int)/\OG)/\M7 [OI,OI,N5 (1:Nat) (0:Nat),OI,OI,OI,OI,OI,OI,OI,OI,OI,OI,OI,OI,OI,OI,OI] (ze c13) (zo c13) (zc c13) pend st=M7 [OI,OI,N5 (1:Nat) (0:Nat),OI,OI,OI,OI,OI,OI,OI,OI,OI,OI,OI,OI,OI,OI,OI] (ze c13) (zo c13) (zc c13) none Mg/\(NU x=NU x/\NG x=NG x/\NA x=NA x/\OM Nc (NH x)=OM Nc (NH x)/\OM N3 (NJ x)=OM N3 (NJ x)/\OM NX (Nt x)=OM NX (Nt x)/\OG)/\OG))/\(decide ((x_1:Int)<(↑(OJ (OM NX (Nt x))):Int))=false->[OD true]=[OD (Lw x)]/\[Ns (85:Nat) [OF (OH Nq (NU f0)),OF (NZ (NG f0)),OF (OH Nq (NA f0)),OF (OE (OM Nc (NH f0))),OF (OE (OM N3 (NJ f0))),OF (OE (OM NX (Nt f0)))],Ns (43:Nat) [OF (OH Nq (0:Int))],M7 [OI,OI,N5 (1:Nat) (0:Nat),OI,OI,OI,OI,OI,OI,OI,OI,OI,OI,OI,OI,OI,OI,OI] (ze c13) (zo c13) (zc c13) none Mg]=[Ns (85:Nat) [OF (OH Nq (NU f0)),OF (NZ (NG f0)),OF (OH Nq (NA f0)),OF (OE (OM Nc (NH f0))),OF (OE (OM N3 (NJ f0))),OF (OE (OM NX (Nt f0)))],Ns (43:Nat) [OF (OH Nq (if Lw x=true then(0:Int)else(1:Int)))],M7 [OI,OI,N5 (1:Nat) (0:Nat),OI,OI,OI,OI,OI,OI,OI,OI,OI,OI,OI,OI,OI,OI,OI] (ze c13) (zo c13) (zc c13) (if Lw x=true then none else some Lg) (if Lw x=true then Mg else J4)])))
 ·kernel_rfl
 refine hy.mono ?_;rintro rs H' ⟨rfl,rfl⟩;refine⟨_,rfl,_,_,_,_,_,_,_,_,_,rfl,λh=>?_,λh=>⟨0,⟨by omega,by simpa using h,rfl⟩,?_,λi hi=>⟨λhlt=>?_,λhge=>?_⟩⟩⟩
 ·have e:xx x=false:=by simpa using h
  have e2:x.formB=false:=by rw[x.formB_eq,e,JY]
  rw[e,e2];exact⟨rfl,rfl⟩
 ·have e:xx x=true:=by simpa using h
  rw[e];exact⟨⟨rfl,rfl,rfl,rfl,rfl,trivial⟩,⟨rfl,rfl,rfl,rfl,rfl,rfl,trivial⟩,⟨rfl,trivial⟩,rfl,⟨rfl,rfl,rfl,rfl,rfl,rfl,trivial⟩,trivial⟩
 ·simp only[Nv,NR]at hlt;obtain⟨z,hz,hm⟩:=zt (l:=x.l) (x:=i) (by omega);rw[M1,uk hz];refine⟨⟨by omega,by simp[hz]⟩,?_⟩;refine(ih z hm (by have:=HU hm;omega)).mono ?_;rintro rs H' ⟨rfl,rfl⟩;refine⟨_,rfl,_,_,_,_,_,_,_,_,_,rfl,λh=>?_,λh=>⟨i+1,⟨by omega,hi.2.1,?_⟩,by omega,?_⟩⟩
  ·have e:z.formB=false:=by simpa using h
   have e2:x.formB=false:=by
    have:x.l.all Lw=false:=by rw[FB];exact⟨z,hm,by simp[e]⟩
    rw[x.formB_eq,uj,this,IS]
   rw[e,e2];exact⟨rfl,rfl⟩
  ·have e:z.formB=true:=by simpa using h
   rw[Lb,hz,J2,hi.2.2];simp[e]
  ·have e:z.formB=true:=by simpa using h
   rw[e];exact⟨⟨rfl,rfl,rfl,rfl,by rw[zu (by omega) (by omega)];simp,trivial⟩,⟨rfl,rfl,rfl,rfl,rfl,rfl,trivial⟩,⟨rfl,trivial⟩,rfl,⟨rfl,rfl,rfl,rfl,rfl,rfl,trivial⟩,trivial⟩
 ·simp only[Nv,M2]at hge;have h2:=hi.2.2;rw[MY (by omega)]at h2;have e2:x.formB=true:=by rw[x.formB_eq,uj,h2,hi.2.1];rfl
  rw[e2];exact⟨rfl,rfl⟩
theorem RP (hM:M.Ok) (f0 x:Fm) (hx:x.wt<4611686018427387904):Nn Tryz.prog (GG M) 216 [.yld 2,.iptr (uJ x)] (TL f0) (λ_ H'=>H'=h13 f0 x.formB):=by
 have h:=RQ hM f0 x hx;rw[yK]at h;refine zF Tryz.func216 rfl ⟨[],_,rfl⟩ ?_;apply @z7 _ (Nn Tryz.prog (GG M) (217:Nat) [OF (NY [OH Nq (NU x),NZ (NG x),OH Nq (NA x),OE (OM Nc (NH x)),OE (OM N3 (NJ x)),OE (OM NX (Nt x))]),NE (2:Nat)] [Ns (85:Nat) [OF (OH Nq (NU f0)),OF (NZ (NG f0)),OF (OH Nq (NA f0)),OF (OE (OM Nc (NH f0))),OF (OE (OM N3 (NJ f0))),OF (OE (OM NX (Nt f0)))],Ns (43:Nat) [OF (OH Nq (0:Int))],M7 [OI,OI,N5 (1:Nat) (0:Nat),OI,OI,OI,OI,OI,OI,OI,OI,OI,OI,OI,OI,OI,OI,OI] (ze c13) (zo c13) (zc c13) none Mg] λ(rs:ON D) (H':ON Box)=>∃(b:Bool),rs=[OD b]/\∃(n:Int)(s:ON UInt8)(n_1:Int),∃ (l:ON D),∃(l_1:ON D)(l_2:ON D)(n_2:Int)(pend:OK Np)(st:NQ),H'=[Ns (85:Nat) [OF (OH Nq n),OF (NZ s),OF (OH Nq n_1),OF (OE l),OF (OE l_1),OF (OE l_2)],Ns (43:Nat) [OF (OH Nq n_2)],M7 [OI,OI,N5 (1:Nat) (0:Nat),OI,OI,OI,OI,OI,OI,OI,OI,OI,OI,OI,OI,OI,OI,OI] (ze c13) (zo c13) (zc c13) pend st]/\[Ns (85:Nat) [OF (OH Nq n),OF (NZ s),OF (OH Nq n_1),OF (OE l),OF (OE l_1),OF (OE l_2)],Ns (43:Nat) [OF (OH Nq n_2)],M7 [OI,OI,N5 (1:Nat) (0:Nat),OI,OI,OI,OI,OI,OI,OI,OI,OI,OI,OI,OI,OI,OI,OI] (ze c13) (zo c13) (zc c13) pend st]=[Ns (85:Nat) [OF (OH Nq (NU f0)),OF (NZ (NG f0)),OF (OH Nq (NA f0)),OF (OE (OM Nc (NH f0))),OF (OE (OM N3 (NJ f0))),OF (OE (OM NX (Nt f0)))],Ns (43:Nat) [OF (OH Nq (if Lw x=true then(0:Int)else(1:Int)))],M7 [OI,OI,N5 (1:Nat) (0:Nat),OI,OI,OI,OI,OI,OI,OI,OI,OI,OI,OI,OI,OI,OI,OI] (ze c13) (zo c13) (zc c13) (if Lw x=true then none else some Lg) (if Lw x=true then Mg else J4)])
 ·kernel_rfl
 refine h.mono ?_;rintro rs H' ⟨rfl,rfl⟩;exact⟨_,rfl,_,_,_,_,_,_,_,_,_,rfl,rfl⟩
theorem TK (hM:M.Ok) (f:Fm) (hf:f.wt<4611686018427387904):OB Tryz.prog (GG M) 153 [f.d] (· = [.int .i64 f.checkI]):=by
 have hr:=f.rank_le_wt;have h15:=QG (G:=GG M) f (by omega);have h17:=QH (G:=GG M) f (by omega);rw[yK]at h15 h17 ⊢;refine zr (LL [(1000001,vI Tryz.prog (GG M) [2] Sp c13)]) Tryz.func153 ⟨_,rfl⟩ (zm (yL (by kernel_rfl))) ?_;apply @z7 _ ((PFnA Tryz.prog (GG M) (189:Nat) [NY [OH Nq (NU f),NZ (NG f),OH Nq (NA f),OE (OM Nc (NH f)),OE (OM N3 (NJ f)),OE (OM NX (Nt f))]] λ(av:AV)=>av=Ml (216:Nat) [] [Ma [OH Nq (NU f),NZ (NG f),OH Nq (NA f),OE (OM Nc (NH f)),OE (OM N3 (NJ f)),OE (OM NX (Nt f))]])/\Nn Tryz.prog (GG M) (216:Nat) [NE (2:Nat),Ma [OH Nq (NU f),NZ (NG f),OH Nq (NA f),OE (OM Nc (NH f)),OE (OM N3 (NJ f)),OE (OM NX (Nt f))]] [Ns (85:Nat) [OF (OH Nq (NU f)),OF (NZ (NG f)),OF (OH Nq (NA f)),OF (OE (OM Nc (NH f))),OF (OE (OM N3 (NJ f))),OF (OE (OM NX (Nt f)))],Ns (43:Nat) [OF (OH Nq (0:Int))],M7 [OI,OI,N5 (1:Nat) (0:Nat),OI,OI,OI,OI,OI,OI,OI,OI,OI,OI,OI,OI,OI,OI,OI] (ze c13) (zo c13) (zc c13) none Mg] λ(x:ON D) (H':ON Box)=>∃(n:Int)(s:ON UInt8)(n_1:Int)(l:ON D)(l_1:ON D)(l_2:ON D)(n_2:Int)(pend:OK Np)(st:NQ),H'=[Ns (85:Nat) [OF (OH Nq n),OF (NZ s),OF (OH Nq n_1),OF (OE l),OF (OE l_1),OF (OE l_2)],Ns (43:Nat) [OF (OH Nq n_2)],M7 [OI,OI,N5 (1:Nat) (0:Nat),OI,OI,OI,OI,OI,OI,OI,OI,OI,OI,OI,OI,OI,OI,OI] (ze c13) (zo c13) (zc c13) pend st]/\st≠J3/\((pend=none/\OB Tryz.prog (GG M) (191:Nat) [NY [OH Nq n,NZ s,OH Nq n_1,OE l,OE l_1,OE l_2]] λ(rs:ON D)=>∃(n_3:Int),rs=[OH Nq n_3]/\OB Tryz.prog (GG M) (192:Nat) [NY [OH Nq n,NZ s,OH Nq n_1,OE l,OE l_1,OE l_2]] λ(rs:ON D)=>∃(n:Int),rs=[OH Nq n]/\((bif decide (n_3>(256:Int))then true else decide (n>(24:Int)))=true->[OH Nq (2:Int)]=[OH Nq (J9 f)])/\((bif decide (n_3>(256:Int))then true else decide (n>(24:Int)))=false->[OH Nq (0:Int)]=[OH Nq (J9 f)]))∨pend=some Lg/\[OH Nq n_2]=[OH Nq (J9 f)]∨pend=some (Jk (aa c13))/\OB Tryz.prog (GG M) (191:Nat) [NY [OH Nq n,NZ s,OH Nq n_1,OE l,OE l_1,OE l_2]] λ(rs:ON D)=>∃(n_3:Int),rs=[OH Nq n_3]/\OB Tryz.prog (GG M) (192:Nat) [NY [OH Nq n,NZ s,OH Nq n_1,OE l,OE l_1,OE l_2]] λ(rs:ON D)=>∃(n:Int),rs=[OH Nq n]/\((bif decide (n_3>(256:Int))then true else decide (n>(24:Int)))=true->[OH Nq (2:Int)]=[OH Nq (J9 f)])/\((bif decide (n_3>(256:Int))then true else decide (n>(24:Int)))=false->[OH Nq (0:Int)]=[OH Nq (J9 f)])))
 ·kernel_rfl
 refine⟨RX f,?_⟩;refine(RP hM f f hf).mono ?_;rintro rs H' rfl;refine⟨_,_,_,_,_,_,_,_,_,rfl,?_,?_⟩
 ·cases f.formB<;>decide
 ·cases hb:f.formB with
  |false =>
   refine .inr (.inl ⟨rfl,?_⟩);simp[J9,hb]
  |true =>
   refine .inl ⟨rfl,?_⟩;refine h15.mono ?_;rintro rs rfl;refine⟨_,rfl,?_⟩;refine h17.mono ?_;rintro rs rfl;refine⟨_,rfl,?_⟩;have e:(bif decide ((f.rank:Int)>256)then true else decide ((f.depth:Int)>24))=decide (256<f.rank∨24<f.depth):=by rw[MG,yi];simp;omega
   rw[e];refine⟨λh2=>?_,λh2=>?_⟩
   ·simp only[NR]at h2;simp[J9,hb,h2]
   ·simp only[M2]at h2;simp only[J9,hb,if_true,N2 h2]
end
theorem Vf (bs:ON Bd):((bs.map N3).all λd=>d.cells.length==2)=true:=by rw[ND];intro d hd;obtain⟨t,_,rfl⟩:=Mj.1 hd;rfl
section
variable {G:Nat->OK (ON D)}
end
section
abbrev Nm:=ON UInt8
def P3 (bnd:ON Nm) (o:ON Nm) (t:Tm):ON Nm:=if t.kind != 1&& !bnd.contains t.name&& !o.contains t.name then o++[t.name]else o
mutual
def Fm.look (bnd out:ON Nm):Fm->ON Nm
 |.mk _ _ _ ts bs l=>Fm.looks (bs.map (·.name)++bnd) (ts.foldl (P3 (bs.map (·.name)++bnd)) out) l
def Fm.looks (bnd out:ON Nm):ON Fm->ON Nm
 |[]=>out
 |x::r=>Fm.looks bnd (x.look bnd out) r
end
def P4 (es:ON (D×D)) (s:Nm):Int:=NO (Nz (zX es (.str s)) (.int .i64 0))
structure EsOk (es:ON (D×D)) (bnd:ON Nm):Prop where
 all:(es.all λkv=>sameKind (.str []) kv.1&&L2 (.int .i64) kv.2)=true
 cnt:∀s,P4 es s=(bnd.count s:Int)
theorem bm (k k':Nm) (x:D):∀(es:ON (D×D)),zX (updD es (.str k) x) (.str k')=if k'=k then some x else zX es (.str k')
 |[]=>by
  simp only[updD,zX,EH];by_cases h:k'=k
  ·subst h;simp[beqD]
  ·have h1:(k'==k)=false:=by simpa using h
   simp[beqD,h,h1]
 |kv::r=>by
  have ih:=bm k k' x r;simp only[updD];by_cases hb:beqD (.str k) kv.1=true
  ·rw[Nf hb];by_cases h:k'=k
   ·subst h;simp[zX,beqD]
   ·simp only[zX,EH,N2 h];have h1:beqD (.str k') (.str k)=false:=by simp[beqD,h]
    have h2:beqD (.str k') kv.1=false:=by
     obtain⟨a,b⟩:=kv;cases a<;>simp[beqD]at hb ⊢
     subst hb;exact h
    rw[h1,h2]
  ·rw[N2 hb];have e:∀l:ON (D×D),zX (kv::l) (.str k')=if beqD (.str k') kv.1=true then some kv.2 else zX l (.str k'):=λl=>by simp only[zX,EH];cases beqD (.str k') kv.1<;>rfl
   rw[e,e,ih];by_cases h:k'=k
   ·subst h;rw[N2 hb];simp
   ·simp only[N2 h]
theorem YT {Q:D×D->Bool}(k x:D):∀(es:ON (D×D)),es.all Q=true->Q (k,x)=true->(updD es k x).all Q=true
 |[],_,h=>by simp[updD,h]
 |kv::r,h,h2=>by
  simp only[J7,NK]at h;simp only[updD];split
  ·simp[h2,h.2]
  ·simp[h.1,YT k x r h.2 h2]
section
variable {G:Nat->OK (ON D)}
end
end
section
def P5 (bnd o:ON Nm) (s:Nm):ON Nm:=if !bnd.contains s&& !o.contains s then o++[s]else o
def Om (ts:ON Tm):ON Nm:=(ts.filter λt=>t.kind != 1).map (·.name)
mutual
def Fm.free:Fm->ON Nm
 |.mk _ _ _ ts bs l=>(Om ts++Fm.frees l).foldl (P5 (bs.map (·.name))) []
def Fm.frees:ON Fm->ON Nm
 |[]=>[]
 |x::r=>x.free++Fm.frees r
end
section
variable {G:Nat->OK (ON D)}
end
end
end Go.Fo
open Go.Fo renaming Maps->Mk
namespace Go.Fo
open Go Go.Sx
theorem rk {f:Fm}(h:f.checkI=0):f.formB=true:=by
 unfold J9 at h;split at h
 ·assumption
 ·cases h
theorem bl (k:Int) (s:Nm) (n:Int) (ts:ON Tm) (bs:ON Bd) (l:ON Fm):(Kt k s n ts bs l).formB=(xx (.mk k s n ts bs l)&&l.all Lw):=by rw[Lw,uj]
def RO (f:Fm):Bool:=if f.kind==10 then(match f.l with|[x]=>decide (3<=x.kind)&&decide (x.kind<9)|_=>false)else f.kind != 13&&(f.kind != 16||decide (0<f.n))&&(f.kind != 17||decide (f.n<1099511627776))
mutual
def Fm.normB:Fm->Bool
 |.mk k s n ts bs l=>Fm.normsB l&&RO (.mk k s n ts bs l)
def Fm.normsB:ON Fm->Bool
 |[]=>true
 |x::r=>x.normB&&Fm.normsB r
end
abbrev En:=ON Bd
def yf (e:En) (nm:Nm):Bool:=e.any λb=>b.name==nm
def sortE:En->Nm->Int
 |[],_=>0
 |b::r,nm=>if b.name==nm then b.sort else sortE r nm
def u5 (e:En):Bool:=e.all bindB&&decide ((e.map (·.name)).Nodup)
def pO (k:Int):Int:=if k=3∨k=4 then 2 else if k=5∨k=6 then 3 else if k=7 then 1 else 0
def jj (k s:Int):Int:=if k=3 then 6 else if k=5 then 7 else if k=4∨k=6∨k=7 then 8 else s
def zL (e:En) (t:Tm):Int×Int :=if t.kind=1 then(8,0)else if yf e t.name=false then(0,81)else if pO t.kind≠0/\sortE e t.name≠pO t.kind then(0,80)else(jj t.kind (sortE e t.name),0)
def gQ (e:En) (t:Tm) (s:Int):Int:=if(zL e t).2=0/\(zL e t).1≠s then 80 else(zL e t).2
def Ve (e:En) (op:Nm) (a b:Tm):Int :=if(zL e a).2≠0 then(zL e a).2 else if(zL e b).2≠0 then(zL e b).2 else if(zL e a).1≠(zL e b).1∨ ¬ (op=[61]∨op=[33,61])/\(zL e a).1≠8/\(zL e a).1≠2/\(zL e a).1≠6 then 80 else 0
def bj (k:Int):Int×Int :=if k=3 then(1,2)else if k=4 then(1,3)else if k=5 then(4,1)else if k=6 then(5,1)else if k=7 then(4,2)else(3,2)
def bi (e:En) (k:Int) (a b:Tm):Int:=if gQ e a (bj k).1≠0 then gQ e a (bj k).1 else gQ e b (bj k).2
def oF (e:En):ON Bd->OK En
 |[]=>some e
 |b::r=>if yf e b.name then none else oF (e++[b]) r
mutual
def Fm.ty:Fm->En->Int
 |.mk k op _ ts bs l,e =>
  if k=9 then Ve e op (vH ts 0) (vH ts 1)
  else if y7 k then bi e k (vH ts 0) (vH ts 1)
  else match oF e bs with
   |none=>82
   |some e'=>Fm.tys l e'
def Fm.tys:ON Fm->En->Int
 |[],_=>0
 |x::r,e=>if x.ty e≠0 then x.ty e else Fm.tys r e
end
def Fm.tyI (f:Fm) (e:En):Int:=if u5 e=false then 1 else if f.checkI≠0 then f.checkI else f.ty e
theorem Fm.ty_eq (f:Fm) (e:En):f.ty e=if f.kind=9 then Ve e f.name (vH f.ts 0) (vH f.ts 1)else if y7 f.kind then bi e f.kind (vH f.ts 0) (vH f.ts 1)else match oF e f.bs with
   |none=>82
   |some e'=>Fm.tys f.l e':=by cases f;rw[Fm.ty];rfl
theorem bh {e:En}{nm:Nm}:yf e nm=true↔nm∈e.map (·.name):=by
 unfold yf;rw[Jb,Mj];constructor
 ·rintro⟨b,h1,h2⟩;exact⟨b,h1,by simpa using h2⟩
 ·rintro⟨b,h1,h2⟩;exact⟨b,h1,by simpa using h2⟩
theorem bg (a b:En) (nm:Nm):yf (a++b) nm=(yf a nm||yf b nm):=by unfold yf;rw[Hl]
theorem TJ (bs:ON Bd):∀e:En,oF e bs=if(bs.all λb=>!yf e b.name)&&decide ((bs.map (·.name)).Nodup)then some (e++bs)else none:=by
 induction bs with
 |nil=>intro e;simp[oF]
 |cons b r ih =>
  intro e;rw[oF];by_cases h:yf e b.name=true
  ·rw[Nf h,N2];simp[h]
  ·rw[N2 h,ih];have h':yf e b.name=false:=by simpa using h
   have hall:(r.all λx=>!yf (e++[b]) x.name)=((r.all λx=>!yf e x.name)&&decide (b.name∉r.map (·.name))):=by
    rw[MG];simp only[ND,NK,NR,Mj,not_exists,not_and,bg];constructor
    ·intro hh;refine⟨λx hx=>?_,λx hx e2=>?_⟩
     ·have:=hh x hx;simp only[Lc,LA]at this;simp[this.1]
     ·have:=hh x hx;simp[yf,e2]at this
    ·rintro⟨h1,h2⟩ x hx;have h3:=h1 x hx;have h4:=h2 x hx;simp only[Lc]at h3;have h5:(b.name==x.name)=false:=by rw[beq_eq_false_iff_ne];exact λe=>h4 e.symm
     rw[h3];simp only[yf,K7,Hf,h5];rfl
   rw[hall];simp only[J7,h',Gw,JV,Mf,KZ,Bool.decide_and,JM,ON.singleton_append];congr 1;rw[Bool.and_assoc]
mutual
def Fm.occ:Fm->ON Nm
 |.mk _ _ _ ts bs l=>ts.map (·.name)++bs.map (·.name)++Fm.occs l
def Fm.occs:ON Fm->ON Nm
 |[]=>[]
 |x::r=>x.occ++Fm.occs r
end
theorem lD {f:Fm}(hf:f.formB=true) (ha:y7 f.kind=true):f.ts.length=2:=by rw[f.formB_eq,NK]at hf;have h:=hf.1;unfold xx at h;rw[NK,NK]at h;have h2:=h.1.2;unfold pP at h2;rw[Nf ha]at h2;simp only[NK,NR]at h2;exact h2.1.1.1
theorem rj {e:En}:u5 e=true↔(∀b∈e,bindB b=true)/\(e.map (·.name)).Nodup:=by unfold u5;rw[NK,ND,NR]
theorem Z5 {e:En}{nm:Nm}:yf e nm=false↔nm∉e.map (·.name):=by rw[←bh];simp
theorem XM {e:En}{b:Bd}(hb:bindB b=true) (hn:yf e b.name=false):u5 (e++[b])=u5 e:=by
 rw[MG,rj,rj];rw[Z5]at hn;constructor
 ·rintro⟨h1,h2⟩;refine⟨λx hx=>h1 x (by simp[hx]),?_⟩;rw[Lq,G3]at h2;exact h2.1
 ·rintro⟨h1,h2⟩;refine⟨λx hx=>?_,?_⟩
  ·rcases LG.1 hx with h|h
   ·exact h1 x h
   ·simp at h;subst h;exact hb
  ·rw[Lq,G3];refine⟨h2,by simp,?_⟩;intro a ha c hc;simp at hc;subst hc;rintro rfl;exact hn ha
theorem gP {f:Fm}(hf:f.formB=true) (ha:y7 f.kind=true):f.bs=[]/\f.l=[]/\∃a b,f.ts=[a,b]:=by
 have h2:=lD hf ha;obtain⟨a,b,h3⟩:=TP h2;have hs:=uK hf;refine⟨?_,?_,a,b,h3⟩
 ·cases hs<;>first|rfl|(simp[NH]at h2)
 ·cases hs<;>first|rfl|(simp[NH]at h2)
theorem XL {f:Fm}(hf:f.formB=true) (ha:¬ y7 f.kind=true):f.ts=[]:=by rw[f.formB_eq,NK]at hf;have h:=hf.1;unfold xx at h;rw[NK,NK]at h;have h2:=h.1.2;unfold pP at h2;rw[N2 ha]at h2;simp only[NK,G5]at h2;exact h2.1
structure Ru where
 name:Nm
 hard:Bool
 weight:Int
 each:ON Bd
 body:Fm
def Ru.d (r:Ru):D:= .agg [.str r.name,.bool r.hard,.int .i64 r.weight,.sl (r.each.map N3),.int .i64 r.body.kind,.str r.body.name,.int .i64 r.body.n,.sl (r.body.ts.map Nc),.sl (r.body.bs.map N3),.sl (r.body.l.map NX)]
def ji (r:Ru):Bool:=if r.hard then r.weight==0 else decide (1<=r.weight)&&decide (r.weight<=1000)
def Ru.tyI (r:Ru):Int :=if(yO r.name&&ji r&&decide (r.each.length<=6)&&r.each.all bindB)=false then 1 else if r.body.checkI≠0 then r.body.checkI else if(r.each.map (·.name)).Nodup then r.body.ty r.each else 82
def rulesT:ON Nm->Nat->ON Ru->Int×Int
 |_,_,[]=>(0,0)
 |seen,i,r::l=>if r.tyI≠0 then((i:Int),r.tyI)else if seen.contains r.name then((i:Int),82)else rulesT (seen++[r.name]) (i+1) l
def wp (l:ON Ru):Int×Int:=rulesT [] 0 l
end Go.Fo
open Go.Fo.Fm renaming ty_eq->F8,tys->KD
open Go.Fo.Ru renaming body->M9,d->Na,each->MF,name->Kx,tyI->H5,weight->LD
namespace Go.Fo
open Go Go.Sx Go.Proofs
theorem _root_.Go.Sx.PFn.use {P:Ng}{G:Nat->OK (ON D)}{f:FuncId}{ds rs:ON D}{Q:ON D->Prop}(h:OB P G f ds (· = rs)) (k:Q rs):OB P G f ds Q:=h.mono (by rintro _ rfl;exact k)
def findN:En->Nm->OK Nat
 |[],_=>none
 |b::r,nm=>if b.name==nm then some 0 else(findN r nm).map (· + 1)
def wJ (e:En) (nm:Nm):Int:=match findN e nm with
 |some i=>(i:Int)
 |none=>-1
theorem jh {nm:Nm}{z:Bd}:∀{e:En}{i:Nat},e[i]? = some z->yf (e.take i) nm=false->(z.name==nm)=true->findN e nm=some i
 |[],_,h,_,_=>by simp at h
 |b::r,0,h,_,h1=>by simp at h;subst h;simp only[findN,h1,if_true]
 |b::r,i+1,h,h0,h1=>by simp only[Lj,yf,K7,LA]at h0;simp only[findN,h0.1,LH,if_false];rw[jh (i:=i) (by simpa using h) h0.2 h1];rfl
theorem qc {nm:Nm}:∀{e:En},yf e nm=false->findN e nm=none
 |[],_=>rfl
 |b::r,h=>by simp only[yf,K7,LA]at h;simp only[findN,h.1,LH,if_false];rw[qc h.2];rfl
theorem qb {nm:Nm}:∀{e:En},yf e nm=true->∃i z,findN e nm=some i/\e[i]? = some z/\z.sort=sortE e nm
 |[],h=>by cases h
 |b::r,h=>by
  by_cases hb:(b.name==nm)=true
  ·exact⟨0,b,by simp only[findN,hb,if_true],rfl,by simp only[sortE,hb,if_true]⟩
  ·have h':yf r nm=true:=by simp only[yf,K7,L4]at h;exact h.resolve_left hb
   obtain⟨i,z,h1,h2,h3⟩:=qb h';exact⟨i+1,z,by simp only[findN,N2 hb,h1];rfl,by simpa using h2,by simp only[sortE,N2 hb];exact h3⟩
theorem YS {nm:Nm}:∀{e:En}{i:Nat},yf (e.take i) nm=true->∃j,j<i/\findN e nm=some j
 |[],i,h=>by simp[yf]at h
 |b::r,0,h=>by simp[yf]at h
 |b::r,i+1,h=>by
  by_cases hb:(b.name==nm)=true
  ·exact⟨0,by omega,by simp only[findN,hb,if_true]⟩
  ·have h':yf (r.take i) nm=true:=by simp only[Lj,yf,K7,L4]at h;exact h.resolve_left hb
   obtain⟨j,h1,h2⟩:=YS h';exact⟨j+1,by omega,by simp only[findN,N2 hb,h2];rfl⟩
theorem XK (e:En) (nm:Nm):decide (wJ e nm<0) = !yf e nm:=by
 cases h:yf e nm with
 |false=>unfold wJ;rw[qc h];rfl
 |true=>obtain⟨i,z,h1,_,_⟩:=qb h;unfold wJ;rw[h1];simp
theorem Vd (e:En) (nm:Nm):decide (wJ e nm>=0)=yf e nm:=by
 cases h:yf e nm with
 |false=>unfold wJ;rw[qc h];rfl
 |true=>obtain⟨i,z,h1,_,_⟩:=qb h;unfold wJ;rw[h1];simp
theorem Vc {e:En}{i:Nat}{z:Bd}(h:e[i]? = some z):(wJ e z.name != (i:Int))=yf (e.take i) z.name:=by
 cases h0:yf (e.take i) z.name with
 |false=>unfold wJ;rw[jh h h0 (by simp)];simp
 |true =>
  obtain⟨j,h1,h2⟩:=YS h0;unfold wJ;rw[h2];simp only[bne_iff_ne,ne_eq];omega
theorem Vb (e:En) (b:Bd):u5 (e++[b])=(u5 e&&bindB b&& !yf e b.name):=by
 by_cases h1:bindB b=true
 ·by_cases h2:yf e b.name=true
  ·rw[h1,h2,Bool.and_true,K6,IS];cases h3:u5 (e++[b])with
   |false=>rfl
   |true =>
    have h4:=(rj.1 h3).2;rw[Lq,G3]at h4;exact No rfl (h4.2.2 _ (bh.1 h2) b.name (by simp))
  ·have h2':yf e b.name=false:=by simpa using h2
   rw[XM h1 h2',h1,h2'];simp
 ·have h1':bindB b=false:=by simpa using h1
  rw[h1',IS,JY];cases h3:u5 (e++[b])with
  |false=>rfl
  |true=>exact No ((rj.1 h3).1 b (by simp)) h1
theorem XJ {e:En}(h:u5 e=true) (i:Nat):u5 (e.take i)=true:=by rw[rj]at h ⊢;exact⟨λb hb=>h.1 b (Je hb),h.2.sublist (Ag _ (ON.take_sublist _ _))⟩
theorem jg {e:En}{i:Nat}{z:Bd}(h:e[i]? = some z):u5 (e.take (i+1))=(u5 (e.take i)&&bindB z&& !yf (e.take i) z.name):=by rw[Lb,h,←Vb];rfl
def ml (e:En):Nat:=e.length+fC e
def QP (nm:Nm):ON Box:=[.cells 9 [.d (.str nm)]]
section
variable {G:Nat->OK (ON D)}{M:Mk}
theorem Ol (b:Bd) (nm:Nm):Nn Tryz.prog G 228 [.d b.d,.ptr 0 0] (QP nm) (λrs H'=>rs=[.bool (b.name==nm)]/\H'=QP nm):=by
 unfold N3;refine zF Tryz.func228 rfl ⟨_,_,rfl,rfl⟩ ?_;apply @z7 _ ([OD (If b==nm)]=[OD (If b==nm)]/\[Ns 9 [.d (.str nm)]]=[Ns 9 [.d (.str nm)]])
 ·kernel_rfl
 exact⟨rfl,rfl⟩
abbrev gO (a:Nat) (b:En) (c:Nm):Prop:=a<=OJ b/\yf (NW a b) c=false
abbrev jf (a:En) (b:Nat):D:=zk [NC,NP .i64] (OM N3 a) (N1 (b:Int))
abbrev lk (a:Nm):ON Box:=[Ns 9 [.d (.str a)]]
theorem Oj (e:En) (nm:Nm) (hl:e.length<4611686018427387904):Nn Tryz.prog G 227 [.d (.sl (e.map N3)),.clo 228 [] [.ptr 0 0]] (QP nm) (λrs H'=>rs=[.int .i64 (wJ e nm)]/\H'=QP nm):=by
 refine zg (LL [(2,zT (α:=Nat) Tryz.prog G L0 1 (zz (z6 Tryz.f227) 0) [0,1,7] (λi=>i<=e.length/\yf (e.take i) nm=false) (λi=>e.length - i) (λi=>[(8,.d (.int .i64 i))]) (λH _=>H))]) Tryz.func227 rfl ⟨_,_,rfl,rfl⟩ (zm zy) ?_;apply @z7 _ (∃(x0:Nat),gO x0 e nm/\((OM N3 e=OM N3 e/\Ml 228 [] [N5 0 0]=Ml 228 [] [N5 0 0]/\(↑(OJ (OM N3 e)):Int)=(↑(OJ (OM N3 e)):Int)/\(0:Int)=(x0:Int)/\OG)/\(nm=nm/\OG)/\OG)/\∀(x:Nat),gO x e nm->(decide ((x:Int)<(↑(OJ (OM N3 e)):Int))=true->((0:Int)<=(x:Int)/\(OM N3 e)[N1 (x:Int)]? = some (jf e x))/\Nn Tryz.prog G 228 [OF (jf e x),.ptr 0 0] (lk nm) λ(rs:ON D) (H':ON Box)=>∃(b:Bool),rs=[OD b]/\∃(s:ON UInt8),H'=[Ns 9 [.d (.str s)]]/\(b=true->[OH .i64 (x:Int)]=[OH .i64 (wJ e nm)]/\[Ns 9 [.d (.str s)]]=lk nm)/\(b=false->∃(y:Nat),gO y e nm/\OJ e - y<OJ e - x/\(OM N3 e=OM N3 e/\Ml 228 [] [N5 0 0]=Ml 228 [] [N5 0 0]/\(↑(OJ (OM N3 e)):Int)=(↑(OJ (OM N3 e)):Int)/\Nl .i64 ((x:Int)+1)=(y:Int)/\OG)/\(s=nm/\OG)/\OG))/\(decide ((x:Int)<(↑(OJ (OM N3 e)):Int))=false->[OH .i64 (-1)]=[OH .i64 (wJ e nm)]/\lk nm=lk nm))
 ·kernel_rfl
 delta gO jf lk;refine⟨0,⟨by omega,rfl⟩,⟨⟨rfl,rfl,rfl,rfl,trivial⟩,⟨rfl,trivial⟩,trivial⟩,λi hi=>⟨λhlt=>?_,λhge=>?_⟩⟩
 ·simp only[Nv,NR]at hlt;obtain⟨z,hz,hm⟩:=zt (l:=e) (x:=i) (by omega);rw[M1,tt hz];refine⟨⟨by omega,by simp[hz]⟩,?_⟩;refine(Ol z nm).mono ?_;rintro rs H' ⟨rfl,rfl⟩;refine⟨_,rfl,_,rfl,λhb=>⟨?_,rfl⟩,λhb=>⟨i+1,⟨by omega,?_⟩,by omega,⟨rfl,rfl,rfl,?_,trivial⟩,⟨rfl,trivial⟩,trivial⟩⟩
  ·unfold wJ;rw[jh hz hi.2 hb]
  ·rw[Lb,hz,bg,hi.2];simp only[FI,yf,K7,Hf,hb];rfl
  ·rw[zu (by omega) (by omega)];simp
 ·simp only[Nv,M2]at hge;have h2:=hi.2;rw[MY (by omega)]at h2;refine⟨?_,rfl⟩;unfold wJ;rw[qc h2]
theorem P6 (e:En) (nm:Nm) (hl:e.length<4611686018427387904):OB Tryz.prog G 193 [.sl (e.map N3),.str nm] (· = [.int .i64 (wJ e nm)]):=by
 refine zn Tryz.func193 ⟨_,rfl⟩ ?_;apply @z7 _ (Nn Tryz.prog G 227 [OF (.sl (OM N3 e)),.clo 228 [] [N5 0 0]] (lk nm) λ(rs:ON D) (H':ON Box)=>∃(n:Int),rs=[OH .i64 n]/\∃(s:ON UInt8),H'=[Ns 9 [.d (.str s)]]/\[OH .i64 n]=[OH .i64 (wJ e nm)])
 ·kernel_rfl
 delta lk gO jf;refine(Oj e nm hl).mono ?_;rintro rs H' ⟨rfl,rfl⟩;exact⟨_,rfl,_,rfl,rfl⟩
abbrev uI (a:En):Int:=(↑(OJ (OM N3 a)):Int)
theorem Oi (e:En):PFnF Tryz.prog G 196 [.sl (e.map N3)] (· = e.map N3):=by
 refine PFnF.of_A (IH (fn:=Tryz.f196) (code:=z6 Tryz.f196) mixed L0 Tryz.func196 (by kernel_rfl) u3 ?_);apply @z7 _ ((0<=uI e/\uI e<=uI e/\uI e=uI e)/\∃(l:ON D),.full (NW (N1 (uI e)) (OM N3 e))=AV.full l/\l=OM N3 e)
 ·kernel_rfl
 delta uI;refine⟨⟨by omega,JT _,rfl⟩,_,rfl,?_⟩;rw[M1,La]
def one1:Fm:= .mk 1 [] 0 [] [] []
theorem P7 (hM:M.Ok) (b:Bd) (hb:b.name.length<=1099511627776):OB Tryz.prog (GG M) 151 [b.d] (· = [.bool (bindB b)]):=by
 have h25:=TK hM (.mk 14 [] 0 [] [b] [one1]) (by simp[Fm.wt,Kv,bw,fC,one1];omega);unfold N3;refine zn Tryz.func151 ⟨_,rfl⟩ ?_;apply @z7 _ (OB Tryz.prog (GG M) 153 [NY [.int .i64 14,.str (Mm (Mn (Mi #[]))),.int .i64 0,.sl [],.sl [NY [.str (If b),.int .i64 (IC b)]],.sl [NY [.int .i64 1,.str (Mm (Mn (Mi #[]))),.int .i64 0,.sl [],.sl [],.sl []]]]] λ(rs:ON D)=>∃(n:Int),rs=[OH .i64 n]/\[OD (n==0)]=[OD (bindB b)])
 ·kernel_rfl
 have e1:(Kt 14 [] 0 [] [b] [one1]).d = .agg [.int .i64 14,.str [],.int .i64 0,.sl [],.sl [.agg [.str b.name,.int .i64 b.sort]],.sl [.agg [.int .i64 1,.str [],.int .i64 0,.sl [],.sl [],.sl []]]]:=by rw[HO];simp[N3,one1,HO]
 rw[e1]at h25;refine h25.use ⟨_,rfl,?_⟩;have e2:(Kt 14 [] 0 [] [b] [one1]).formB=bindB b:=by simp[one1,bl,xx,yb,pP,jl,y7,yj,xZ,NU,NH,NJ,Nt,NA,NG]
 unfold J9;rw[e2];cases bindB b with
 |false=>rfl
 |true=>simp[one1,Fm.rank,MQ,D0,Kc]
abbrev YR (a:Nat) (b:En):Prop:=a<=OJ b/\u5 (NW a b)=true
abbrev bf (a:En):Prop:=OM N3 a=OM N3 a
theorem P8 (hM:M.Ok) (e:En) (hl:ml e<=1099511627776):OB Tryz.prog (GG M) 154 [.sl (e.map N3)] (· = [.bool (u5 e)]):=by
 refine zr (LL [(2,zT (α:=Nat) Tryz.prog (GG M) L0 0 (zz (z6 Tryz.f154) 0) [0,5,6] (λi=>i<=e.length/\u5 (e.take i)=true) (λi=>e.length - i) (λi=>[(7,.d (.int .i64 i))]) (λH _=>H))]) Tryz.func154 ⟨_,rfl⟩ (zm zy) ?_;apply @z7 _ (∃(x0:Nat),YR x0 e/\((bf e/\bf e/\uI e=uI e/\(0:Int)=(x0:Int)/\OG)/\OG)/\∀(x:Nat),YR x e->(decide ((x:Int)<uI e)=true->((0:Int)<=(x:Int)/\(OM N3 e)[N1 (x:Int)]? = some (jf e x))/\OB Tryz.prog (GG M) 151 [jf e x] λ(rs:ON D)=>∃(b:Bool),rs=[OD b]/\OB Tryz.prog (GG M) 193 [OE (OM N3 e),.str (MJ (Nz (z1 (OM N3 e) (N1 (x:Int)) 0) default))] λ(rs:ON D)=>∃(n:Int),rs=[OH .i64 n]/\((bif !b then true else n != (x:Int))=true->[OD false]=[OD (u5 e)])/\((bif !b then true else n != (x:Int))=false->∃(y:Nat),YR y e/\OJ e - y<OJ e - x/\(bf e/\bf e/\uI e=uI e/\Nl .i64 ((x:Int)+1)=(y:Int)/\OG)/\OG))/\(decide ((x:Int)<uI e) = false->[OD true]=[OD (u5 e)]))
 ·kernel_rfl
 delta YR bf uI jf gO lk;unfold ml at hl;refine⟨0,⟨by omega,rfl⟩,by simp,λi hi=>⟨λhlt=>?_,λhge=>?_⟩⟩
 ·simp only[Nv,NR]at hlt;obtain⟨z,hz,hm⟩:=zt (l:=e) (x:=i) (by omega);have hzl:=jm hm;rw[M1,tt hz,rp hz];have e2:MJ (Nz (some (NZ z.name)) default)=z.name:=rfl;rw[e2];refine⟨⟨by omega,by simp[hz]⟩,?_⟩;refine(P7 hM z (by omega)).use ⟨_,rfl,?_⟩;refine(P6 e z.name (by omega)).use ⟨_,rfl,?_⟩;rw[Vc hz];have hs:=jg hz;refine⟨λh=>?_,λh=>⟨i+1,⟨by omega,?_⟩,by omega,?_⟩⟩
  ·have:u5 (e.take (i+1))=false:=by
    rw[hs,hi.2];cases hb:bindB z with
    |false=>rfl
    |true=>rw[hb]at h;simp only[K6,cond_false]at h;rw[h];rfl
   cases he:u5 e with
   |false=>rfl
   |true=>rw[XJ he]at this;cases this
  ·rw[hs,hi.2];cases hb:bindB z with
   |false=>rw[hb]at h;cases h
   |true=>rw[hb]at h;simp only[K6,cond_false]at h;rw[h];rfl
  ·rw[zu (by omega) (by omega)];simp
 ·simp only[Nv,M2]at hge;have h2:=hi.2;rw[MY (by omega)]at h2;rw[h2]
end
theorem XI (l:ON Bd):xW (l.map N3) 2=true:=by unfold xW;rw[ND];intro d hd;obtain⟨t,_,rfl⟩:=Mj.1 hd;rfl
section
variable {G:Nat->OK (ON D)}{M:Mk}
end
def xN (e:En):ON Tm->ON Int->ON Int×Int
  |[],out=>(out,0)
  |t::r,out=>if(zL e t).2≠0 then([],(zL e t).2)else xN e r (out++[(zL e t).1])
def vy (e:En):ON Tm->ON Int->Int
  |t::r,w::ws=>if gQ e t w≠0 then gQ e t w else vy e r ws
  |_,_=>0
theorem yZ {α:Type}{l:ON α}{i:Nat}{z:α}(h:l[i]? = some z):l.drop i=z::l.drop (i+1):=by
  have hlt:i<l.length:=by
    rcases M0 i l.length with h' |h'
    · exact h'
    · rw[My h']at h;cases h
  rw[LR hlt]at h;cases h;exact ON.drop_eq_getElem_cons hlt
def intD (n:Int):D:= .int .i64 n
theorem su (l:ON Int):((l.map intD).all λd=>d.cells.length==1)=true:=by rw[ND];intro d hd;obtain⟨t,_,rfl⟩:=Mj.1 hd;rfl
theorem Va (l:ON Int) (n:Int) (h:l.length<1000000):FA (l.map intD) [OH .i64 n] 1 8:=by have:=su l;refine⟨by rw[J2,this];rfl,?_⟩;simp;omega
theorem VZ {wa wb w:Int}{i:Nat}(h:[wa,wb][i]? = some w):z1 [OH .i64 wa,OH .i64 wb] i 0=some (.int .i64 w):=by
  match i,h with
  |0,h=>simp at h;subst h;rfl
  |1,h=>simp at h;subst h;rfl
theorem TI {wa wb w:Int}{i:Nat}(h:[wa,wb][i]? = some w):[OH .i64 wa,OH .i64 wb][i]? = some (.int .i64 w):=by
  match i,h with
  |0,h=>simp at h;subst h;rfl
  |1,h=>simp at h;subst h;rfl
theorem xe {l:ON Int}{i:Nat}{z:Int}(h:l[i]? = some z):z1 (l.map intD) i 0=some (.int .i64 z):=by simp[z1,h,intD,Mw]
theorem je {f:Fm}(hf:f.formB=true) (hk0:y7 f.kind=true):f.ts.all yC=true:=by
  have h2:=lD hf hk0;have hs:=uK hf;cases hs with
  |atom k a b hk ha hb=>simp[NH,ha,hb]
  |cmp s a b hs ha hb=>simp[NH,ha,hb]
  |const k hk=>simp[NH]at h2
  |not x hx=>simp[NH]at h2
  |two k x y hk hx hy=>simp[NH]at h2
  |quant k bs x hk hb h1 h6 hx=>simp[NH]at h2
  |count k n bs x hk h0 hn hb h1 h6 hx=>simp[NH]at h2
theorem XH {t:Tm}(h:yC t=true) (h1:¬ t.kind=1) (h2:¬ t.kind=2):t.kind=3∨t.kind=4∨t.kind=5∨t.kind=6∨t.kind=7:=by unfold yC at h;rw[N2 h1]at h;simp only[NK,NR]at h;omega
section
variable {G:Nat->OK (ON D)}{M:Mk}
abbrev gN (a:En) (b:Tm):ON D:=[OH .i64 (N7 (zL a b)),.int .i64 (NV (zL a b))]
abbrev VY (a:Int) (b:En):Prop:=0<=a/\(OM N3 b)[N1 a]? = some (zk [NC,NP .i64] (OM N3 b) (N1 a))
abbrev gM (a:Tm):Nat:=N1 (MA a)*2
abbrev VX (a:Tm):D:=OH .i64 (NO (Nz (wY takL)[gM a]? default))
abbrev VW (a:Tm):ON D:=[OH .i64 (NO (Nz (wY takL)[gM a+1]? default))]
abbrev VV (a:Tm):Prop:=(0<=MA a/\MA a<(↑8:Int))/\NW 2 (Lx (gM a) (wY takL))=VX a::VW a
abbrev VU (a:Tm):Int:=NO (Nz (rowFrom ((λ(s:ON Sh)=>Ef (M4 2 s)) [NP .i64]) (wY takL) (gM a))[0]? default)
abbrev VT (a:Tm) (b:En) (c:Int):Bool:=VU a != NO (Nz (z1 (OM N3 b) (N1 c) 1) default)
abbrev VS (a:Tm):D:=OH .i64 (NO (Nz (rowFrom ((λ(s:ON Sh)=>Ef (M4 2 s)) [NP .i64]) (wY takL) (gM a))[1]? default))
theorem P9 (e:En) (t:Tm) (ht:yC t=true) (hl:e.length<4611686018427387904):OB Tryz.prog (GG M) 195 [.sl (e.map N3),t.d] (· = [.int .i64 (zL e t).1,.int .i64 (zL e t).2]):=by
  unfold Nc;refine zn Tryz.func195 ⟨_,rfl⟩ ?_;apply @z7 _ (((MA t==1)=true->[OH .i64 8,.int .i64 0]=gN e t)/\((MA t==1)=false->OB Tryz.prog (GG M) 193 [OE (OM N3 e),.str (MI t)] λ(rs:ON D)=>∃(n:Int),rs=[OH .i64 n]/\(decide (n<0)=true->[OH .i64 0,.int .i64 81]=gN e t)/\(decide (n<0)=false->((MA t==2)=true->VY n e/\[OH .i64 (NO (Nz (z1 (OM N3 e) (N1 n) (0+1)) default)),.int .i64 0]=gN e t)/\((MA t==2)=false->VV t/\(((0:Int)<=0/\(0:Int)<(↑2:Int))/\[VX t]=[OH .i64 (VU t)])/\VY n e/\(VT t e n=true->[OH .i64 0,.int .i64 80]=gN e t)/\(VT t e n=false->VV t/\(((0:Int)<=1/\(1:Int)<(↑2:Int))/\VW t=[VS t])/\[VS t,.int .i64 0]=gN e t)))))
  · kernel_rfl
  delta gN VY VV gM VX VW VU VT VS;unfold zL;refine⟨λh=>by rw[Nf (by simpa using h)],λh=>?_⟩;have hk1:¬ t.kind=1:=by simpa using h
  rw[N2 hk1];refine(P6 e t.name hl).use ⟨_,rfl,?_⟩;rw[XK];refine⟨λh=>by rw[Nf (by simpa using h)],λh=>?_⟩;have hh:yf e t.name=true:=by simpa using h
  rw[N2 (by simp[hh])];obtain⟨i,z,h1,h2,h3⟩:=qb hh;have hfi:wJ e t.name=i:=by unfold wJ;rw[h1]
  rw[hfi,M1,tt h2,tW h2,←h3];have e3:NO (Nz (some (OH .i64 z.sort)) default)=z.sort:=rfl;rw[e3];have hget:(OM N3 e)[i]? = some z.d:=by simp[h2]
  have key:∀(a g:Int),pO t.kind=a->jj t.kind z.sort=g->a≠0->((a != z.sort)=true->[OH .i64 0,OH .i64 80]=[OH .i64 (if pO t.kind≠0/\z.sort≠pO t.kind then((0:Int),(80:Int))else(jj t.kind z.sort,0)).1,OH .i64 (if pO t.kind≠0/\z.sort≠pO t.kind then((0:Int),(80:Int))else(jj t.kind z.sort,0)).2]) /\
      ((a != z.sort)=false->[OH .i64 g,OH .i64 0]=[OH .i64 (if pO t.kind≠0/\z.sort≠pO t.kind then((0:Int),(80:Int))else(jj t.kind z.sort,0)).1,OH .i64 (if pO t.kind≠0/\z.sort≠pO t.kind then((0:Int),(80:Int))else(jj t.kind z.sort,0)).2]):=by
    intro a g ha hg h0;rw[ha,hg];refine⟨λh=>?_,λh=>?_⟩
    · have h':a≠z.sort:=by simpa using h
      rw[Nf ⟨h0,λe=>h' e.symm⟩]
    · have h':a=z.sort:=by simpa using h
      rw[N2 (λh2=>h2.2 h'.symm)]
  refine⟨λhk2=>⟨⟨by omega,hget⟩,?_⟩,λhk2=>?_⟩
  · have hk:t.kind=2:=by simpa using hk2
    rw[hk];have ha:pO 2=0:=rfl;rw[ha,N2 (by simp)];rfl
  · rcases XH ht hk1 (by simpa using hk2)with hk|hk|hk|hk|hk
    · have k1:=key 2 6 (by rw[hk];rfl) (by rw[hk];rfl) (by decide)
      rw[hk]at k1 ⊢;exact⟨⟨⟨by decide,by decide⟩,rfl⟩,⟨⟨by decide,by decide⟩,rfl⟩,⟨by omega,hget⟩,λh=>k1.1 h,λh=>⟨⟨⟨by decide,by decide⟩,rfl⟩,⟨⟨by decide,by decide⟩,rfl⟩,k1.2 h⟩⟩
    · have k1:=key 2 8 (by rw[hk];rfl) (by rw[hk];rfl) (by decide)
      rw[hk]at k1 ⊢;exact⟨⟨⟨by decide,by decide⟩,rfl⟩,⟨⟨by decide,by decide⟩,rfl⟩,⟨by omega,hget⟩,λh=>k1.1 h,λh=>⟨⟨⟨by decide,by decide⟩,rfl⟩,⟨⟨by decide,by decide⟩,rfl⟩,k1.2 h⟩⟩
    · have k1:=key 3 7 (by rw[hk];rfl) (by rw[hk];rfl) (by decide)
      rw[hk]at k1 ⊢;exact⟨⟨⟨by decide,by decide⟩,rfl⟩,⟨⟨by decide,by decide⟩,rfl⟩,⟨by omega,hget⟩,λh=>k1.1 h,λh=>⟨⟨⟨by decide,by decide⟩,rfl⟩,⟨⟨by decide,by decide⟩,rfl⟩,k1.2 h⟩⟩
    · have k1:=key 3 8 (by rw[hk];rfl) (by rw[hk];rfl) (by decide)
      rw[hk]at k1 ⊢;exact⟨⟨⟨by decide,by decide⟩,rfl⟩,⟨⟨by decide,by decide⟩,rfl⟩,⟨by omega,hget⟩,λh=>k1.1 h,λh=>⟨⟨⟨by decide,by decide⟩,rfl⟩,⟨⟨by decide,by decide⟩,rfl⟩,k1.2 h⟩⟩
    · have k1:=key 1 8 (by rw[hk];rfl) (by rw[hk];rfl) (by decide)
      rw[hk]at k1 ⊢;exact⟨⟨⟨by decide,by decide⟩,rfl⟩,⟨⟨by decide,by decide⟩,rfl⟩,⟨by omega,hget⟩,λh=>k1.1 h,λh=>⟨⟨⟨by decide,by decide⟩,rfl⟩,⟨⟨by decide,by decide⟩,rfl⟩,k1.2 h⟩⟩
abbrev vx (a:En) (b:Nat) (c:ON Tm):ON Int:=OM (λ(t:Tm)=>N7 (zL a t)) (NW b c)
abbrev ri (a:Nat) (b:ON Tm) (c:En):Prop:=a<=OJ b/\xN c (Lx a b) (vx c a b)=xN c b []
abbrev vw (a:ON Tm):Prop:=OM Nc a=OM Nc a
abbrev ss (a:En):Prop:=Ml 195 [OF (.sl (OM N3 a))] []=Ml 195 [OF (.sl (OM N3 a))] []
abbrev pN (a:ON Tm) (b:Nat):D:=zk [NP .i64,NC,NP .i64] (OM Nc a) (N1 (b:Int))
abbrev yJ (a:Int):ON D:=[OH .i64 a]
abbrev pM (a:Int) (b:Nat) (c:Int):Bool:=bif bif a==0 then !true else false then NO (Nz (z1 [] (N1 (b:Int)) 0) default) != c else false
abbrev rh (a:En) (b:ON Tm):ON D:=[OE (OM intD (N7 (xN a b []))),.int .i64 (NV (xN a b []))]
abbrev pL (a:Nat) (b:En) (c:ON Tm) (d:Int):Prop:=(a=OJ (OM intD (vx b a c))/\1=1/\FA (OM intD (vx b a c)) (yJ d) (nat_lit 1) (nat_lit 8))/\∃(y:Nat),ri y c b/\OJ c - y<OJ c - a/\(vw c/\ss b/\HN=HN/\OM intD (vx b a c)++Mx [aZ false (yJ d)]=OM intD (vx b y c)/\(0:Int)=0/\vw c/\(↑(OJ (OM Nc c)):Int)=(↑(OJ (OM Nc c)):Int)/\Nl .i64 ((a:Int)+1)=(y:Int)/\OG)/\OJ (OM intD (vx b a c))+OJ (Mx [aZ false (yJ d)])=y/\OG
theorem Pz (e:En) (ts:ON Tm) (ht:ts.all yC=true) (hl:e.length<4611686018427387904) (hts:ts.length<1000):Nn Tryz.prog (GG M) 194 [.d (.sl (ts.map Nc)),.clo 195 [.d (.sl (e.map N3))] [],.nils] [] (λrs H'=>rs=[.sl ((xN e ts []).1.map intD),.int .i64 (xN e ts []).2]/\H'=[]):=by
  refine zg (LL [(2,zT (α:=Nat) Tryz.prog (GG M) L0 0 (zz (z6 Tryz.f194) 0) [0,1,2,7,12,13] (λi=>i<=ts.length/\xN e (ts.drop i) ((ts.take i).map λt=>(zL e t).1)=xN e ts []) (λi=>ts.length - i) (λi=>[(14,.d (.int .i64 i)),(6,.vec 0 (((ts.take i).map λt=>(zL e t).1).map intD))]) (λ_ i=>[.vec i 1]))]) Tryz.func194 rfl ⟨_,_,rfl,rfl⟩ (zm zy) ?_;apply @z7 _ (∃(x0:Nat),ri x0 ts e/\((vw ts/\ss e/\HN=HN/\([]=OM intD (vx e x0 ts)/\OJ ([]:ON D)<=x0)/\(0:Int)=0/\vw ts/\(↑(OJ (OM Nc ts)):Int)=(↑(OJ (OM Nc ts)):Int)/\(0:Int)=(x0:Int)/\OG)/\OG)/\∀(x:Nat),ri x ts e->(decide ((x:Int)<(↑(OJ (OM Nc ts)):Int))=true->((0:Int)<=(x:Int)/\(OM Nc ts)[N1 (x:Int)]? = some (pN ts x))/\OB Tryz.prog (GG M) 195 [OE (OM N3 e),pN ts x] λ(rs:ON D)=>∃(n:Int)(n_1:Int),rs=OH .i64 n::yJ n_1/\((bif n_1==0 then !true else false)=true->(0:Int)<=(x:Int)/\none=some (OH .i64 (Int.ofNat (nat_lit 0))))/\(pM n_1 x n=true->(((80:Int) != 0)=true->[OE [],.int .i64 80]=rh e ts/\([]:ON Box)=[])/\(((80: Int) != 0)=false->pL x e ts n))/\(pM n_1 x n=false->((n_1 != 0)=true->OE []::yJ n_1=rh e ts/\([]:ON Box)=[])/\((n_1 != 0)=false->pL x e ts n)))/\(decide ((x:Int)<(↑(OJ (OM Nc ts)):Int))=false->[OE (OM intD (vx e x ts)),.int .i64 0]=rh e ts/\([]:ON Box)=[]))
  · kernel_rfl
  delta ri vx vw ss pN yJ pM rh pL;refine⟨0,⟨by omega,rfl⟩,⟨⟨rfl,rfl,rfl,⟨rfl,by simp⟩,rfl,rfl,rfl,rfl,trivial⟩,trivial⟩,λi hi=>⟨λhlt=>?_,λhge=>?_⟩⟩
  · simp only[Nv,NR]at hlt
    obtain⟨z,hz,hm⟩:=zt (l:=ts) (x:=i) (by omega);rw[M1,jn hz];have hi2:=hi.2;rw[yZ hz,xN]at hi2;have hno:∀b:Bool,(bif b then !true else false)=false:=by intro b;cases b<;>rfl
    refine⟨⟨by omega,by simp[hz]⟩,?_⟩;refine(P9 e z (ND.1 ht z hm) hl).use ⟨_,_,rfl,λh=>?_,λh=>?_,λ_=>⟨λh=>?_,λh=>?_⟩⟩
    · rw[hno]at h;cases h
    · rw[hno]at h;cases h
    · rw[Nf (by simpa using h)]at hi2
      rw[←hi2];exact⟨rfl,rfl⟩
    · rw[N2 (by simpa using h)]at hi2
      have hlen:(OM (λt=>(zL e t).1) (NW i ts)).length=i:=by simp;omega
      have hnx:(NW (i+1) ts).map (λt=>(zL e t).1)=(NW i ts).map (λt=>(zL e t).1)++[(zL e z).1]:=by rw[Lb,hz];simp
      refine⟨⟨by rw[Nv,hlen],rfl,Va _ _ (by rw[hlen];omega)⟩,i+1,⟨by omega,by rw[hnx];exact hi2⟩,by omega,⟨rfl,rfl,rfl,?_,rfl,rfl,rfl,?_,trivial⟩,?_,trivial⟩
      · rw[hnx,Lq];rfl
      · rw[zu (by omega) (by omega)];simp
      · rw[Nv,hlen];rfl
  · simp only[Nv,M2]at hge
    have hi2:=hi.2;rw[Ls (by omega),xN]at hi2;rw[←hi2];exact⟨rfl,rfl⟩
abbrev fB (a:Nat×ON Int) (b:ON Tm) (c:En) (d:Int) (e:Int):Prop:=N7 a<=OJ b/\OJ (NV a)=N7 a/\vy c (Lx (N7 a) b) (Lx (N7 a) [d,e])=vy c b [d,e]
abbrev tq (a:Int) (b:Int):ON D:=OH .i64 a::yJ b
abbrev rf (a:Nat×ON Int):ON D:=OM intD (NV a)
abbrev pK (a:Nat×ON Int):Nat:=N1 (↑(N7 a):Int)
abbrev Z6 (a:ON Tm) (b:Nat×ON Int):D:=zk [NP .i64,NC,NP .i64] (OM Nc a) (pK b)
abbrev fA (a:ON Int) (b:En) (c:ON Tm) (d:Int) (e:Int):ON D:=[OE (OM intD a),.int .i64 (vy b c [d,e])]
abbrev Z7 (a:Nat×ON Int) (b:Int) (c:ON Tm) (d:En) (e:Int) (f:Int):Prop:=(N7 a=OJ (rf a)/\1=1/\FA (rf a) (yJ b) (nat_lit 1) (nat_lit 8))/\∃(y:Nat×ON Int),fB y c d e f/\OJ c - N7 y<OJ c - N7 a/\(vw c/\ss d/\tq e f=tq e f/\rf a++Mx [aZ false (yJ b)]=rf y/\(0:Int)=0/\vw c/\(↑(OJ (OM Nc c)):Int)=(↑(OJ (OM Nc c)):Int)/\Nl .i64 ((↑(N7 a):Int)+1)=(↑(N7 y):Int)/\OG)/\OJ (rf a)+OJ (Mx [aZ false (yJ b)])=N7 y/\OG
theorem XG (e:En) (ts:ON Tm) (wa wb:Int) (ht:ts.all yC=true) (hl:e.length<4611686018427387904) (hts:ts.length=2):Nn Tryz.prog (GG M) 194 [.d (.sl (ts.map Nc)),.clo 195 [.d (.sl (e.map N3))] [],.d (.sl [.int .i64 wa,.int .i64 wb])] [] (λrs H'=>(∃l:ON Int,rs=[.sl (l.map intD),.int .i64 (vy e ts [wa,wb])])/\H'=[]):=by
  refine zg (LL [(2,zT (α:=Nat×ON Int) Tryz.prog (GG M) L0 0 (zz (z6 Tryz.f194) 0) [0,1,2,7,12,13] (λi=>i.1<=ts.length/\i.2.length=i.1/\vy e (ts.drop i.1) ([wa,wb].drop i.1)=vy e ts [wa,wb]) (λi=>ts.length - i.1) (λi=>[(14,.d (.int .i64 i.1)),(6,.vec 0 (i.2.map intD))]) (λ_ i=>[.vec i.1 1]))]) Tryz.func194 rfl ⟨_,_,⟨[],rfl⟩,rfl⟩ (zm zy) ?_;apply @z7 _ (∃(x0:Nat×ON Int),fB x0 ts e wa wb/\((vw ts/\ss e/\tq wa wb=tq wa wb/\([]=rf x0/\OJ ([]:ON D)<=N7 x0)/\(0:Int)=0/\vw ts/\(↑(OJ (OM Nc ts)):Int)=(↑(OJ (OM Nc ts)):Int)/\(0:Int)=(↑(N7 x0):Int)/\OG)/\OG)/\∀(x:Nat×ON Int),fB x ts e wa wb->(decide ((↑(N7 x):Int)<(↑(OJ (OM Nc ts)):Int))=true->((0:Int)<=(↑(N7 x):Int)/\(OM Nc ts)[pK x]? = some (Z6 ts x))/\OB Tryz.prog (GG M) 195 [OE (OM N3 e),Z6 ts x] λ(rs:ON D)=>∃(n:Int)(n_1:Int),rs=tq n n_1/\((bif n_1==0 then !false else false)=true->(0:Int)<=(↑(N7 x):Int)/\(tq wa wb)[pK x]? = some (OH .i64 (NO (Nz (z1 (tq wa wb) (pK x) 0) default))))/\((bif bif n_1==0 then !false else false then NO (Nz (z1 (tq wa wb) (pK x) 0) default) != n else false)=true->(((80:Int) != 0)=true->(∃(l:ON Int),[OE [],.int .i64 80]=fA l e ts wa wb)/\([]:ON Box)=[])/\(((80:Int) != 0)=false->Z7 x n ts e wa wb))/\((bif bif n_1==0 then !false else false then NO (Nz (z1 (tq wa wb) (pK x) 0) default) != n else false)=false->((n_1 != 0)=true->(∃(l:ON Int),.sl []::yJ n_1=fA l e ts wa wb)/\([]:ON Box)=[])/\((n_1 != 0)=false->Z7 x n ts e wa wb)))/\(decide ((↑(N7 x):Int)<(↑(OJ (OM Nc ts)):Int))=false->(∃(l:ON Int),[OE (rf x),.int .i64 0]=fA l e ts wa wb)/\([]:ON Box)=[]))
  · kernel_rfl
  delta fB vw ri vx ss pN yJ pM rh pL tq rf pK Z6 fA Z7;refine⟨(0,[]),⟨by simp,rfl,rfl⟩,⟨⟨rfl,rfl,rfl,⟨rfl,by simp⟩,rfl,rfl,rfl,rfl,trivial⟩,trivial⟩,?_⟩;rintro⟨i,out⟩ ⟨hi,ho,hi2⟩;dsimp only at hi ho hi2 ⊢;refine⟨λhlt=>?_,λhge=>?_⟩
  · simp only[Nv,NR]at hlt
    obtain⟨z,hz,hm⟩:=zt (l:=ts) (x:=i) (by omega);obtain⟨w,hw,_⟩:=zt (l:=[wa,wb]) (x:=i) (by simp;omega);rw[M1,jn hz,VZ hw];have e3:NO (Nz (some (OH .i64 w)) default)=w:=rfl;rw[e3];rw[yZ hz,yZ hw,vy]at hi2;refine⟨⟨by omega,by simp[hz]⟩,?_⟩;have goOn:gQ e z w=0->(i=(OM intD out).length/\1=1/\FA (OM intD out) [OH .i64 (zL e z).1] 1 8)/\∃y:Nat×ON Int,(y.1<=ts.length/\y.2.length=y.1/\vy e (Lx y.1 ts) (Lx y.1 [wa,wb])=vy e ts [wa,wb])/\ts.length - y.1<ts.length - i /\
        (OM Nc ts=OM Nc ts/\Ml 195 [OF (OE (OM N3 e))] []=Ml 195 [OF (OE (OM N3 e))] []/\[OH .i64 wa,OH .i64 wb]=[OH .i64 wa,OH .i64 wb]/\OM intD out++[aZ false [OH .i64 (zL e z).1]].reverse=OM intD y.2/\(0:Int)=0/\OM Nc ts=OM Nc ts/\((OM Nc ts).length:Int)=((OM Nc ts).length:Int)/\Nq.wrap ((i:Int)+1)=(y.1:Int)/\OG)/\(OM intD out).length+[aZ false [OH .i64 (zL e z).1]].reverse.length=y.1/\OG:=by
      intro h0;rw[N2 (by simp[h0])]at hi2;refine⟨⟨by rw[Nv,ho],rfl,Va _ _ (by omega)⟩,(i+1,out++[(zL e z).1]),⟨by simp only;omega,by simp[ho],hi2⟩,by simp only;omega,⟨rfl,rfl,rfl,?_,rfl,rfl,rfl,?_,trivial⟩,?_,trivial⟩
      · rw[Lq];rfl
      · rw[zu (by omega) (by omega)];simp
      · rw[Nv,ho];rfl
    refine(P9 e z (ND.1 ht z hm) hl).use ⟨_,_,rfl,λ_=>⟨by omega,TI hw⟩,λh=>⟨λ_=>?_,λh=>(by cases h)⟩,λh=>⟨λh2=>?_,λh2=>?_⟩⟩
    · have h0:gQ e z w=80:=by
        unfold gQ;rw[Nf];cases hb:(zL e z).2==0 with
        |false=>rw[hb]at h;cases h
        |true =>
          rw[hb]at h;have h5:¬ w=(zL e z).1:=by simpa using h
          exact⟨by simpa using hb,λh6=>h5 h6.symm⟩
      rw[Nf (by rw[h0];decide),h0]at hi2;exact⟨⟨[],by rw[←hi2];rfl⟩,rfl⟩
    · have hne:¬ (zL e z).2=0:=by simpa using h2
      have h0:gQ e z w=(zL e z).2:=by unfold gQ;rw[N2 (λh3=>hne h3.1)]
      rw[Nf (by rw[h0];exact hne),h0]at hi2;exact⟨⟨[],by rw[←hi2];rfl⟩,rfl⟩
    · have he0:(zL e z).2=0:=by simpa using h2
      refine goOn ?_;unfold gQ;rw[he0]at h ⊢;rw[N2];rintro⟨_,h4⟩;have:(bif bif (0:Int)==0 then !false else false then w != (zL e z).1 else false)=(w != (zL e z).1):=rfl;rw[this]at h;exact h4 (by simpa using h:w=(zL e z).1).symm
  · simp only[Nv,M2]at hge
    have h2:vy e ts [wa,wb]=0:=by rw[Ls (by omega)]at hi2;rw[←hi2];rfl
    exact⟨⟨out,by rw[h2]⟩,rfl⟩
abbrev YQ (a:Nat) (b:ON Int) (c:Int):Prop:=a<=OJ b/\Hi (NW a b) c=false
abbrev YP (a:ON Int) (b:Nat):Int:=NO (Nz (z1 (OM intD a) (N1 (b:Int)) 0) default)
theorem Oh (l:ON Int) (n:Int) (hl:l.length<4611686018427387904):OB Tryz.prog G 123 [.sl (l.map intD),.int .i64 n] (λrs=>∃r:Int,rs=[.int .i64 r]/\decide (r>=0)=l.contains n):=by
  refine zr (LL [(2,zT (α:=Nat) Tryz.prog G L0 0 (zz (z6 Tryz.f123) 0) [0,1,7] (λi=>i<=l.length/\(l.take i).contains n=false) (λi=>l.length - i) (λi=>[(8,.d (.int .i64 i))]) (λH _=>H))]) Tryz.func123 ⟨_,if l.contains n then 0 else -1,rfl,by cases l.contains n<;>rfl⟩ (zm zy) ?_;apply @z7 _ (∃(x0:Nat),YQ x0 l n/\((OM intD l=OM intD l/\n=n/\(↑(OJ (OM intD l)):Int)=(↑(OJ (OM intD l)):Int)/\(0:Int)=(x0:Int)/\OG)/\OG)/\∀(x:Nat),YQ x l n->(decide ((x:Int)<(↑(OJ (OM intD l)):Int))=true->((0:Int)<=(x:Int)/\(OM intD l)[N1 (x:Int)]? = some (OH .i64 (YP l x)))/\((n==YP l x)=true->∃(r:Int),[OH .i64 (x:Int)]=yJ r/\decide (r>=0)=Hi l n)/\((n==YP l x)=false->∃(y:Nat),YQ y l n/\OJ l - y<OJ l - x/\(OM intD l=OM intD l/\n=n/\(↑(OJ (OM intD l)):Int)=(↑(OJ (OM intD l)):Int)/\Nl .i64 ((x:Int)+1)=(y:Int)/\OG)/\OG))/\(decide ((x:Int)<(↑(OJ (OM intD l)):Int))=false->∃(r: Int),[OH .i64 (-1)]=yJ r/\decide (r>=0)=Hi l n))
  · kernel_rfl
  delta YQ YP yJ ri vx vw ss pN pM rh pL;refine⟨0,⟨by omega,rfl⟩,by simp,λi hi=>⟨λhlt=>?_,λhge=>?_⟩⟩
  · simp only[Nv,NR]at hlt
    obtain⟨z,hz,hm⟩:=zt (l:=l) (x:=i) (by omega);rw[M1,xe hz];have e3:NO (Nz (some (OH .i64 z)) default)=z:=rfl;rw[e3];refine⟨⟨by omega,by simp[hz,intD]⟩,λh=>⟨_,rfl,?_⟩,λh=>⟨i+1,⟨by omega,?_⟩,by omega,?_⟩⟩
    · have hn:n=z:=by simpa using h
      have:l.contains n=true:=by rw[hn];simpa using hm
      rw[this];simp
    · have hn:¬ n=z:=by simpa using h
      have h2:=hi.2;rw[Lb,hz];simp only[FI,FT,LG,DM,M2]at h2 ⊢;rintro (h3|h3)
      · exact h2 h3
      · exact hn h3
    · rw[zu (by omega) (by omega)];simp
  · simp only[Nv,M2]at hge
    have h2:=hi.2;rw[MY (by omega)]at h2;exact⟨_,rfl,by rw[h2];rfl⟩
theorem Tj (l:ON Int) (n:Int) (hl:l.length<4611686018427387904):OB Tryz.prog G 76 [.sl (l.map intD),.int .i64 n] (· = [.bool (l.contains n)]):=by
  refine zn Tryz.func76 ⟨_,rfl⟩ ?_;apply @z7 _ (OB Tryz.prog G 123 (OE (OM intD l)::yJ n) λ(rs:ON D)=>∃(n_1:Int),rs=yJ n_1/\[OD (decide (n_1>=0))]=[OD (Hi l n)])
  · kernel_rfl
  delta yJ ri vx vw ss pN pM rh pL;refine(Oh l n hl).mono ?_;rintro rs ⟨r,rfl,hr⟩;exact⟨r,rfl,by rw[hr]⟩
abbrev gL (a:Fm) (b:En):ON D:=[OH .i64 (Fm.ty a b)]
abbrev e8 (a:Int) (b:Fm) (c:En):Prop:=yJ a=gL b c
abbrev Z8 (a:ON D):D:=OH .i64 (NO (Nz (z1 a (N1 0) 0) default))
abbrev Z9 (a:ON D):Prop:=(0:Int)<=0/\a[N1 0]? = some (Z8 a)
abbrev VR (a:ON D) (b:Bool) (c:Fm):Bool:=bif NO (Nz (z1 a (N1 0) 0) default) != NO (Nz (z1 a (N1 1) 0) default)then true else !bif bif b then true else NG c==Mm (Mn (Mi #[(61:UInt8)]))then true else NG c==Mm (Mn (Mi #[(33:UInt8),(61:UInt8)]))
abbrev Zz (a:Fm):ON D:=[OH .i64 (NO (Nz (wY askL)[N1 (NU a)*2]? default)),.int .i64 (NO (Nz (wY askL)[N1 (NU a)*2+1]? default))]
abbrev uH (a:En) (b:Nat) (c:Fm):En:=a++NW b (NJ c)
abbrev ez (a:Nat) (b:Fm) (c:En):Prop:=a<=OJ (NJ b)/\oF c (NJ b)=oF (uH c a b) (Lx a (NJ b))
abbrev be (a:En):Prop:=OM N3 a=OM N3 a
abbrev rc (a:En) (b:Nat):Nat:=OJ a+b
abbrev YO (a:Fm):Prop:=OM N3 (NJ a)=OM N3 (NJ a)
abbrev jd (a:Fm):Int:=(↑(OJ (OM N3 (NJ a))):Int)
abbrev ew (a:Fm):Prop:=OM NX (Nt a)=OM NX (Nt a)
abbrev jc (a:Fm):Prop:=NU a=NU a/\NG a=NG a/\NA a=NA a/\OM Nc (NH a)=OM Nc (NH a)/\YO a/\ew a/\OG
abbrev VQ (a:Fm) (b:Nat):D:=zk [NC,NP .i64] (OM N3 (NJ a)) (N1 (b:Int))
abbrev Zy (a:Fm) (b:Nat):ON D:=Mx [NY (Mx [(λ(x:Sh×Nat)=>match x with|(sh,j)=>MK sh (Nz (z1 (OM N3 (NJ a)) (N1 (b:Int)) j) default)) (NP .i64,0+1),(λ(x:Sh×Nat)=>match x with|(sh,j)=>MK sh (Nz (z1 (OM N3 (NJ a)) (N1 (b:Int)) j) default)) (NC,0)])]
abbrev VP (a:Nat) (b:Nat):Prop:=Nl .i64 ((a:Int)+1)=(b:Int)/\OG
abbrev eu (a:Nat) (b:Fm) (c:En):Prop:=a<=OJ (Nt b)/\KD (Lx a (Nt b)) (c++NJ b)=KD (Nt b) (c++NJ b)
abbrev pJ (a:Fm):Int:=(↑(OJ (OM NX (Nt a))):Int)
abbrev VO (a:Fm) (b:Nat):D:=zk [NP .i64,NC,NP .i64,NB,NB,NB] (OM NX (Nt a)) (N1 (b:Int))
theorem Ow (f:Fm) (hf:f.formB=true) (e:En) (hw:e.length+f.wt<1099511627776):OB Tryz.prog (GG M) 155 [.sl (e.map N3),f.d] (· = [.int .i64 (f.ty e)]):=by
  induction f using KY generalizing e with
  |h f ih =>
  rw[yK f];refine zr (LL [(14,zT (α:=Nat) Tryz.prog (GG M) L0 0 (zz (z6 Tryz.f155) 0) [0,3,78,79] (λi=>i<=f.bs.length/\oF e f.bs=oF (e++f.bs.take i) (f.bs.drop i)) (λi=>f.bs.length - i) (λi=>[(80,.d (.int .i64 i)),(10,.vec 1 ((e++f.bs.take i).map N3))]) (λH i=>[H.getD 0 .dead,.vec (e.length+i) 2])),(21,zT (α:=Nat) Tryz.prog (GG M) L0 0 (zz (z6 Tryz.f155) 1) [0,3,10,95,96] (λi=>i<=f.l.length/\KD (f.l.drop i) (e++f.bs)=KD f.l (e++f.bs)) (λi=>f.l.length - i) (λi=>[(97,.d (.int .i64 i))]) (λH i=>[H.getD 0 .dead,H.getD 1 .dead]))]) Tryz.func155 ⟨_,rfl⟩ (lE zy zy) ?_;have hty:=f.ty_eq e;have hwt:=f.wt_eq;have hwl:=oI f.l;have hall:∀x∈f.l,x.formB=true:=by rw[f.formB_eq,uj,NK]at hf;exact ND.1 hf.2
  apply @z7 _ (((NU f==9)=true->Nn Tryz.prog (GG M) 194 [OF (.sl (OM Nc (NH f))),.clo 195 [OF (.sl (OM N3 e))] [],.nils] [] λ(rs:ON D) (H':ON Box)=>∃(l:ON D)(n:Int),rs=OE l::yJ n/\H'=[]/\((n != 0)=true->e8 n f e)/\((n != 0)=false->Z9 l/\OB Tryz.prog (GG M) 76 [OE [OH .i64 8,.int .i64 2,.int .i64 6],Z8 l] λ(rs:ON D)=>∃(b:Bool),rs=[OD b]/\Z9 l/\((0:Int)<=1/\l[N1 1]? = some (OH .i64 (NO (Nz (z1 l (N1 1) 0) default))))/\(VR l b f=true->[OH .i64 80]=gL f e)/\(VR l b f=false->[OH .i64 0]=gL f e)))/\((NU f==9)=false->(decide ((↑(OJ (OM Nc (NH f))):Int)>0)=true->((0<=NU f/\NU f<(↑9:Int))/\NW 2 (Lx (N1 (NU f)*2) (wY askL)) = Zz f)/\OG/\Nn Tryz.prog (GG M) 194 [OF (.sl (OM Nc (NH f))),.clo 195 [OF (.sl (OM N3 e))] [],.d (.sl (Zz f))] [] λ(rs:ON D) (H':ON Box)=>H'=[]/\∃(l:ON D)(n:Int),rs=OE l::yJ n/\e8 n f e)/\(decide ((↑(OJ (OM Nc (NH f))):Int)>0)=false->PFnF Tryz.prog (GG M) 196 [OE (OM N3 e)] λ(l:ON D)=>∃(x0:Nat),ez x0 f e/\((be e/\N5 0 0=N5 0 0/\(l=OM N3 (uH e x0 f)/\OJ l<=rc e x0)/\YO f/\jd f=jd f/\(0:Int)=(x0:Int)/\OG)/\jc f/\OG)/\∀(x:Nat),ez x f e->(decide ((x:Int)<jd f)=true->((0:Int)<=(x:Int)/\(OM N3 (NJ f))[N1 (x:Int)]? = some (VQ f x))/\OB Tryz.prog (GG M) 193 [OE (OM N3 (uH e x f)),.str (MJ (Nz (z1 (OM N3 (NJ f)) (N1 (x:Int)) 0) default))] λ(rs:ON D)=>∃(n:Int),rs=yJ n/\(decide (n>=0)=true->[OH .i64 82]=gL f e)/\(decide (n>=0)=false->(rc e x=OJ (OM N3 (uH e x f))/\2=2/\FA (OM N3 (uH e x f)) [VQ f x] (nat_lit 2) (nat_lit 24))/\∃(y:Nat),ez y f e/\OJ (NJ f) - y<OJ (NJ f) - x/\(be e/\N5 0 0=N5 0 0/\OM N3 (uH e x f)++Zy f x=OM N3 (uH e y f)/\YO f/\jd f=jd f/\VP x y)/\jc f/\OJ (OM N3 (uH e x f))+OJ (Zy f x)=rc e y/\OG))/\(decide ((x:Int)<jd f)=false->∃(x0:Nat),eu x0 f e/\((be e/\N5 0 0=N5 0 0/\OM N3 (uH e x f)=OM N3 (uH e x f)/\ew f/\pJ f=pJ f/\(0:Int)=(↑x0: Int)/\OG)/\jc f/\rc e x=rc e x/\OG)/\∀(x_1:Nat),eu x_1 f e->(decide ((x_1:Int)<pJ f)=true->((0:Int)<=(x_1:Int)/\(OM NX (Nt f))[N1 (x_1:Int)]? = some (VO f x_1))/\OB Tryz.prog (GG M) 155 [OE (OM N3 (uH e x f)),VO f x_1] λ(rs:ON D)=>∃(n:Int),rs=yJ n/\((n != 0)=true->e8 n f e)/\((n != 0)=false->∃(y:Nat),eu y f e/\OJ (Nt f) - y<OJ (Nt f) - x_1/\(be e/\N5 0 0=N5 0 0/\OM N3 (uH e x f)=OM N3 (uH e x f)/\ew f/\pJ f=pJ f/\VP x_1 y)/\jc f/\rc e x=rc e x/\OG))/\(decide ((x_1:Int)<pJ f)=false->[OH .i64 0]=gL f e)))))
  · kernel_rfl
  delta yJ ri vx vw ss pN pM rh pL e8 gL Z9 Z8 VR Zz ez uH be rc YO jd jc ew VQ Zy VP eu pJ VO;refine⟨λh9=>?_,λh9=>⟨λhts=>?_,λhts=>?_⟩⟩
  · have h9':f.kind=9:=by simpa using h9
    have ha:y7 f.kind=true:=by rw[h9'];rfl
    obtain⟨_,_,a,b,hab⟩:=gP hf ha;have htt:=je hf ha;rw[Nf h9',hab]at hty;have e0:vH [a,b] 0=a:=rfl;have e1:vH [a,b] 1=b:=rfl;rw[e0,e1]at hty;unfold Ve at hty;refine(Pz e f.ts htt (by omega) (by rw[hab];simp)).mono ?_;rintro rs H' ⟨rfl,rfl⟩;rw[hab];by_cases ha0:(zL e a).2=0
    · rw[N2 (by simp[ha0])]at hty
      by_cases hb0:(zL e b).2=0
      · rw[N2 (by simp[hb0])]at hty
        have hS:xN e [a,b] []=([(zL e a).1,(zL e b).1],0):=by simp[xN,ha0,hb0]
        rw[hS];refine⟨_,_,rfl,rfl,λh=>(by cases h),λ_=>⟨⟨by omega,rfl⟩,?_⟩⟩;refine(Tj [8,2,6] (zL e a).1 (by decide)).use ⟨_,rfl,⟨by omega,rfl⟩,⟨by omega,rfl⟩,λh=>?_,λh=>?_⟩
        · replace h:(bif (zL e a).1 != (zL e b).1 then true else !bif bif [8,2,6].contains (zL e a).1 then true else f.name==[61]then true else f.name==[33,61])=true:=h
          rw[hty,Nf];simp only[yi,L4,bne_iff_ne,ne_eq,Lc,LA,FT,MU,Ja,or_false,M2,not_or,beq_eq_false_iff_ne]at h;rcases h with h|⟨⟨⟨h1,h2,h3⟩,h4⟩,h5⟩
          · exact .inl h
          · exact .inr ⟨λh6=>h6.elim h4 h5,h1,h2,h3⟩
        · replace h:(bif (zL e a).1 != (zL e b).1 then true else !bif bif [8,2,6].contains (zL e a).1 then true else f.name==[61]then true else f.name==[33,61])=false:=h
          rw[hty,N2];simp only[yi,LA,bne_eq_false_iff_eq,Bool.not_eq_false',L4,FT,MU,Ja,or_false,NR,beq_iff_eq]at h;obtain⟨h1,h2⟩:=h;rintro (h3|⟨h4,h5,h6,h7⟩)
          · exact h3 h1
          · rcases h2 with (h2|h2)|h2
            · rcases h2 with h2|h2|h2
              · exact h5 h2
              · exact h6 h2
              · exact h7 h2
            · exact h4 (.inl h2)
            · exact h4 (.inr h2)
      · rw[Nf hb0]at hty
        have hS:xN e [a,b] []=([],(zL e b).2):=by simp[xN,ha0,hb0]
        rw[hS];exact⟨_,_,rfl,rfl,λ_=>by rw[hty],λh=>No (by simpa using h) hb0⟩
    · rw[Nf ha0]at hty
      have hS:xN e [a,b] []=([],(zL e a).2):=by simp[xN,ha0]
      rw[hS];exact⟨_,_,rfl,rfl,λ_=>by rw[hty],λh=>No (by simpa using h) ha0⟩
  · have h9' :¬ f.kind=9:=by simpa using h9
    have ha:y7 f.kind=true:=by
      rcases KN (y7 f.kind=true)with h|h
      · exact h
      · rw[XL hf h]at hts;simp at hts
    obtain⟨_,_,a,b,hab⟩:=gP hf ha;have htt:=je hf ha;rw[N2 h9',Nf ha,hab]at hty;have e0:vH [a,b] 0=a:=rfl;have e1:vH [a,b] 1=b:=rfl;rw[e0,e1]at hty;have fin:∀wa wb:Int,bj f.kind=(wa,wb)->vy e f.ts [wa,wb]=f.ty e:=by intro wa wb hk;rw[hty,hab];by_cases h1:gQ e a wa=0<;>by_cases h2:gQ e b wb=0<;>simp[vy,bi,h1,h2,hk]
    have hk:f.kind=3∨f.kind=4∨f.kind=5∨f.kind=6∨f.kind=7∨f.kind=8:=by simp only[y7,NK,NR]at ha;omega
    have hlen:f.ts.length=2:=lD hf ha;rcases hk with hk|hk|hk|hk|hk|hk
    · have:=fin 1 2 (by rw[hk];rfl)
      rw[hk];refine⟨⟨⟨by decide,by decide⟩,rfl⟩,trivial,(XG e f.ts 1 2 htt (by omega) hlen).mono ?_⟩;rintro rs H' ⟨⟨l,rfl⟩,rfl⟩;exact⟨rfl,_,_,rfl,by rw[this]⟩
    · have:=fin 1 3 (by rw[hk];rfl)
      rw[hk];refine⟨⟨⟨by decide,by decide⟩,rfl⟩,trivial,(XG e f.ts 1 3 htt (by omega) hlen).mono ?_⟩;rintro rs H' ⟨⟨l,rfl⟩,rfl⟩;exact⟨rfl,_,_,rfl,by rw[this]⟩
    · have:=fin 4 1 (by rw[hk];rfl)
      rw[hk];refine⟨⟨⟨by decide,by decide⟩,rfl⟩,trivial,(XG e f.ts 4 1 htt (by omega) hlen).mono ?_⟩;rintro rs H' ⟨⟨l,rfl⟩,rfl⟩;exact⟨rfl,_,_,rfl,by rw[this]⟩
    · have:=fin 5 1 (by rw[hk];rfl)
      rw[hk];refine⟨⟨⟨by decide,by decide⟩,rfl⟩,trivial,(XG e f.ts 5 1 htt (by omega) hlen).mono ?_⟩;rintro rs H' ⟨⟨l,rfl⟩,rfl⟩;exact⟨rfl,_,_,rfl,by rw[this]⟩
    · have:=fin 4 2 (by rw[hk];rfl)
      rw[hk];refine⟨⟨⟨by decide,by decide⟩,rfl⟩,trivial,(XG e f.ts 4 2 htt (by omega) hlen).mono ?_⟩;rintro rs H' ⟨⟨l,rfl⟩,rfl⟩;exact⟨rfl,_,_,rfl,by rw[this]⟩
    · have:=fin 3 2 (by rw[hk];rfl)
      rw[hk];refine⟨⟨⟨by decide,by decide⟩,rfl⟩,trivial,(XG e f.ts 3 2 htt (by omega) hlen).mono ?_⟩;rintro rs H' ⟨⟨l,rfl⟩,rfl⟩;exact⟨rfl,_,_,rfl,by rw[this]⟩
  · have h9' :¬ f.kind=9:=by simpa using h9
    have ha:¬ y7 f.kind=true:=by intro h;have:=lD hf h;simp[this]at hts
    rw[N2 h9',N2 ha]at hty;refine(Oi e).mono ?_;rintro l rfl;refine⟨0,⟨by omega,by simp⟩,⟨⟨rfl,rfl,⟨by simp,by simp⟩,rfl,rfl,rfl,trivial⟩,⟨rfl,rfl,rfl,rfl,rfl,rfl,trivial⟩,trivial⟩,λi hi=>⟨λhlt=>?_,λhge=>?_⟩⟩
    · simp only[Nv,NR]at hlt
      obtain⟨z,hz,hm⟩:=zt (l:=f.bs) (x:=i) (by omega);have hd:=yZ hz;have hi2:=hi.2;rw[hd,oF]at hi2;have hli:(e++f.bs.take i).length=e.length+i:=by simp;omega
      rw[M1,tt hz,rp hz];have e2:MJ (Nz (some (NZ z.name)) default)=z.name:=rfl;rw[e2];refine⟨⟨by omega,by simp[hz]⟩,?_⟩;refine(P6 (e++f.bs.take i) z.name (by rw[hli];omega)).use ⟨_,rfl,?_⟩;rw[Vd];refine⟨λh=>?_,λh=>?_⟩
      · rw[Nf h]at hi2
        rw[hty,hi2]
      · rw[N2 (by simp[h])]at hi2
        have hcell:Mx [NY (Mx [OH .i64 z.sort,NZ z.name])]=[z.d]:=rfl;have hnx:e++f.bs.take (i+1)=e++f.bs.take i++[z]:=by rw[Lb,hz];simp
        have hF:FA (OM N3 (e++f.bs.take i)) [z.d] 2 24:=by
          refine⟨?_,?_⟩
          · have:=XI (e++f.bs.take i++[z])
            unfold xW at this;simpa using this
          · rw[Nv,hli];simp;omega
        refine⟨⟨by rw[Nv,hli],rfl,hF⟩,i+1,⟨by omega,by rw[hnx];exact hi2⟩,by omega,⟨rfl,rfl,?_,rfl,rfl,?_,trivial⟩,⟨rfl,rfl,rfl,rfl,rfl,rfl,trivial⟩,?_,trivial⟩
        · rw[hnx,Lq (l₂:=[z])]
          simp only[rp hz,tW hz];rfl
        · rw[zu (by omega) (by omega)];simp
        · rw[Nv,hli]
          simp only[ON.length_reverse,MO,ON.length_nil];omega
    · simp only[Nv,M2]at hge
      have hi2:=hi.2;rw[Ls (by omega),MY (by omega:f.bs.length<=i),oF]at hi2;rw[MY (by omega:f.bs.length<=i)];rw[hi2]at hty;simp only at hty;refine⟨0,⟨by omega,rfl⟩,⟨⟨rfl,rfl,rfl,rfl,rfl,rfl,trivial⟩,⟨rfl,rfl,rfl,rfl,rfl,rfl,trivial⟩,rfl,trivial⟩,λj hj=>⟨λhlt=>?_,λhge2=>?_⟩⟩
      · simp only[Nv,NR]at hlt
        obtain⟨z,hz,hm⟩:=zt (l:=f.l) (x:=j) (by omega);have hj2:=hj.2;rw[yZ hz,KD]at hj2;have hzw:=HU hm;rw[M1,uk hz];refine⟨⟨by omega,by simp[hz]⟩,?_⟩;have hzw2:=YZ hm;refine(ih z hm (hall z hm) (e++f.bs) (by rw[Kb];omega)).use ⟨_,rfl,λh=>?_,λh=>?_⟩
        · rw[Nf (by simpa using h)]at hj2
          rw[hty,hj2]
        · rw[N2 (by simpa using h)]at hj2
          refine⟨j+1,⟨by omega,hj2⟩,by omega,⟨rfl,rfl,rfl,rfl,rfl,?_,trivial⟩,⟨rfl,rfl,rfl,rfl,rfl,rfl,trivial⟩,rfl,trivial⟩;rw[zu (by omega) (by omega)];simp
      · simp only[Nv,M2]at hge2
        have hj2:=hj.2;rw[Ls (by omega),KD]at hj2;rw[hty,←hj2]
end
section
variable {G:Nat->OK (ON D)}{M:Mk}
end
def er (t:Tm):Fm:= .mk 9 [61] 0 [t,t] [] []
def jb (e:En) (t:Tm):Int×Int:=if u5 e=true/\yC t=true then zL e t else(0,1)
theorem XF (t:Tm):(er t).formB=yC t:=by simp[er,bl,xx,yb,pP,jl,y7,yj,lm,vH,NU,NH,NJ,Nt,NA,NG]
theorem Zx (t:Tm):(er t).checkI=if yC t then 0 else 1:=by
 unfold J9;rw[XF];cases yC t with
 |false=>rfl
 |true=>simp[er,Fm.rank,MQ,D0,Kc]
theorem TH (t:Tm):(er t).wt=4+2*t.name.length+2*0:=by simp[er,Fm.wt,Kv,bw,fC];omega
theorem SV (t:Tm):(er t).d = .agg [.int .i64 9,.str [61],.int .i64 0,.sl [.agg [.int .i64 t.kind,.str t.name,.int .i64 t.n],.agg [.int .i64 t.kind,.str t.name,.int .i64 t.n]],.sl [],.sl []]:=by unfold er;rw[HO];simp[Nc]
section
variable {G:Nat->OK (ON D)}{M:Mk}
abbrev YN (a:Tm):D:=NY [.int .i64 (MA a),.str (MI a),.int .i64 (Ks a)]
abbrev VN (a:En) (b:Tm):ON D:=[OH .i64 (N7 (jb a b)),.int .i64 (NV (jb a b))]
theorem g13 (hM:M.Ok) (e:En) (t:Tm) (hl:ml e<=1099511627776) (ht:t.name.length<=1099511627776):OB Tryz.prog (GG M) 159 [.sl (e.map N3),t.d] (· = [.int .i64 (jb e t).1,.int .i64 (jb e t).2]):=by
 have h25:=TK hM (er t) (by rw[TH];omega);rw[SV]at h25;have h31:=P9 (M:=M) e t;unfold Nc at h31 ⊢;refine zn Tryz.func159 ⟨_,rfl⟩ ?_;apply @z7 _ (OB Tryz.prog (GG M) 154 [OE (OM N3 e)] λ(rs:ON D)=>∃(b:Bool),rs=[OD b]/\OB Tryz.prog (GG M) 153 [NY [.int .i64 9,.str (Mm (Mn (Mi #[(61:UInt8)]))),.int .i64 0,.sl [YN t,YN t],.sl [],.sl []]] λ(rs:ON D)=>∃(n:Int),rs=[OH .i64 n]/\((bif !b then true else n != 0)=true->[OH .i64 0,.int .i64 1]=VN e t)/\((bif !b then true else n != 0)=false->OB Tryz.prog (GG M) 195 [OE (OM N3 e),YN t] λ(rs:ON D)=>∃(n:Int)(n_1:Int),rs=[OH .i64 n,.int .i64 n_1]/\[OH .i64 n,.int .i64 n_1]=VN e t))
 ·kernel_rfl
 delta YN VN;unfold jb;rw[Zx]at h25;unfold ml at hl;refine(P8 hM e (by unfold ml;omega)).use ⟨_,rfl,?_⟩;refine h25.use ⟨_,rfl,?_⟩;cases he:u5 e with
 |false=>exact⟨λ_=>rfl,λh=>(by cases h)⟩
 |true =>
  cases hb:yC t with
  |false=>exact⟨λ_=>rfl,λh=>(by cases h)⟩
  |true =>
   refine⟨λh=>(by cases h),λ_=>?_⟩;exact(h31 hb (by omega)).use ⟨_,_,rfl,rfl⟩
abbrev YM (a:Fm) (b:En):ON D:=[OH .i64 (Fm.tyI a b)]
abbrev VM (a:Fm):ON D:=[NY [.int .i64 (NU a),.str (NG a),.int .i64 (NA a),.sl (OM Nc (NH a)),.sl (OM N3 (NJ a)),.sl (OM NX (Nt a))]]
theorem g16 (hM:M.Ok) (e:En) (f:Fm) (hl:ml e+f.wt<1099511627776):OB Tryz.prog (GG M) 119 [.sl (e.map N3),f.d] (· = [.int .i64 (f.tyI e)]):=by
 have h25:=TK hM f (by omega);have h36:=λh=>Ow (M:=M) f h e (by unfold ml at hl;omega);rw[yK f]at *;refine zn Tryz.func119 ⟨_,rfl⟩ ?_;apply @z7 _ (OB Tryz.prog (GG M) 154 [OE (OM N3 e)] λ(rs:ON D)=>∃(b:Bool),rs=[OD b]/\((!b)=true->[OH .i64 1]=YM f e)/\((!b)=false->OB Tryz.prog (GG M) 153 (VM f) λ(rs:ON D)=>∃(n:Int),rs=[OH .i64 n]/\((n != 0)=true->[OH .i64 n]=YM f e)/\((n != 0)=false->OB Tryz.prog (GG M) 155 (OE (OM N3 e)::VM f) λ(rs:ON D)=>∃(n:Int),rs=[OH .i64 n]/\[OH .i64 n]=YM f e)))
 ·kernel_rfl
 delta YM VM;unfold Fm.tyI;refine(P8 hM e (by omega)).use ⟨_,rfl,λh=>by rw[Nf (by simpa using h)],λh=>?_⟩;rw[N2 (by simpa using h)];refine h25.use ⟨_,rfl,λh=>by rw[Nf (by simpa using h)],λh=>?_⟩;have hc:f.checkI=0:=by simpa using h
 rw[N2 (by simpa using h)];exact(h36 (rk hc)).use ⟨_,rfl,rfl⟩
theorem Og (hM:M.Ok) (b:Bd) (hb:b.name.length<=1099511627776):OB Tryz.prog (GG M) 150 [b.d] (· = [.bool (!bindB b)]):=by
 have h:=P7 hM b hb;unfold N3 at h ⊢;refine zn Tryz.func150 ⟨_,rfl⟩ ?_;apply @z7 _ (OB Tryz.prog (GG M) 151 [NY [.str (If b),.int .i64 (IC b)]] λ(rs:ON D)=>∃(b_1:Bool),rs=[OD b_1]/\[OD !b_1]=[OD !bindB b])
 ·kernel_rfl
 exact h.use ⟨_,rfl,rfl⟩
abbrev YL (a:Nat) (b:En):Prop:=a<=OJ b/\LV (NW a b) bindB=true
abbrev VL (a:En) (b:Nat):D:=zk [NC,NP .i64] (OM N3 a) (N1 (b:Int))
theorem Of (hM:M.Ok) (e:En) (hl:ml e<=1099511627776):OB Tryz.prog (GG M) 188 [.sl (e.map N3),.fn 150] (λrs=>∃r:Int,rs=[.int .i64 r]/\decide (r>=0) = !e.all bindB):=by
 refine zr (LL [(2,zT (α:=Nat) Tryz.prog (GG M) L0 0 (zz (z6 Tryz.f188) 0) [0,1,7] (λi=>i<=e.length/\(e.take i).all bindB=true) (λi=>e.length - i) (λi=>[(8,.d (.int .i64 i))]) (λH _=>H))]) Tryz.func188 ⟨_,⟨if e.all bindB then -1 else 0,rfl,by cases e.all bindB<;>rfl⟩⟩ (zm zy) ?_;apply @z7 _ (∃(x0:Nat),YL x0 e/\((OM N3 e=OM N3 e/\OF (.fn 150)=OF (.fn 150)/\(↑(OJ (OM N3 e)):Int)=(↑(OJ (OM N3 e)):Int)/\(0:Int)=(x0:Int)/\OG)/\OG)/\∀(x:Nat),YL x e->(decide ((x:Int)<(↑(OJ (OM N3 e)):Int))=true->((0:Int)<=(x:Int)/\(OM N3 e)[N1 (x:Int)]? = some (VL e x))/\OB Tryz.prog (GG M) 150 [VL e x] λ(rs:ON D)=>∃(b:Bool),rs=[OD b]/\(b=true->∃(r:Int),[OH .i64 (x:Int)]=[OH .i64 r]/\decide (r>=0) = !LV e bindB)/\(b=false->∃(y:Nat),YL y e/\OJ e - y<OJ e - x/\(OM N3 e=OM N3 e/\OF (.fn 150)=OF (.fn 150)/\(↑(OJ (OM N3 e)):Int)=(↑(OJ (OM N3 e)):Int)/\Nl .i64 ((x:Int)+1)=(y:Int)/\OG)/\OG))/\(decide ((x:Int)<(↑(OJ (OM N3 e)):Int))=false->∃(r:Int),[OH .i64 (-1)]=[OH .i64 r]/\decide (r>=0) = !LV e bindB))
 ·kernel_rfl
 delta YL VL;unfold ml at hl;refine⟨0,⟨by omega,rfl⟩,?_,λi hi=>⟨λhlt=>?_,λhge=>?_⟩⟩
 ·simp
 ·simp only[Nv,NR]at hlt;obtain⟨z,hz,hm⟩:=zt (l:=e) (x:=i) (by omega);have hzl:=jm hm;rw[M1,tt hz];refine⟨⟨by omega,by simp[hz]⟩,?_⟩;refine(Og hM z (by omega)).use ⟨_,rfl,λhb=>⟨_,rfl,?_⟩,λhb=>⟨i+1,⟨by omega,?_⟩,by omega,?_⟩⟩
  ·have:e.all bindB=false:=by rw[FB];exact⟨z,hm,by simpa using hb⟩
   rw[this];simp
  ·rw[Lb,hz,J2,hi.2];simpa using hb
  ·rw[zu (by omega) (by omega)];simp
 ·simp only[Nv,M2]at hge;have h2:=hi.2;rw[MY (by omega)]at h2;exact⟨_,rfl,by rw[h2];rfl⟩
theorem Ov (hM:M.Ok) (e:En) (hl:ml e<=1099511627776):OB Tryz.prog (GG M) 152 [.sl (e.map N3),.fn 150] (· = [.bool (!e.all bindB)]):=by
 refine zn Tryz.func152 ⟨_,rfl⟩ ?_;apply @z7 _ (OB Tryz.prog (GG M) 188 [OE (OM N3 e),.fn 150] λ(rs:ON D)=>∃(n:Int),rs=[OH .i64 n]/\[OD (decide (n>=0))]=[OD !LV e bindB])
 ·kernel_rfl
 refine(Of hM e hl).mono ?_;rintro rs ⟨r,rfl,hr⟩;exact⟨r,rfl,by rw[hr]⟩
end
def Ru.wt (r:Ru):Nat:=r.name.length+ml r.each+r.body.wt
def Ru.headB (r:Ru):Bool:=yO r.name&&ji r&&decide (r.each.length<=6)&&r.each.all bindB
theorem Ru.tyI_bad {r:Ru}(h:r.headB=false):r.tyI=1:=by unfold H5;unfold Ru.headB at h;rw[Nf h]
theorem Ru.tyI_check {r:Ru}(h:r.headB=true) (hc:r.body.checkI≠0):r.tyI=r.body.checkI:=by unfold H5;unfold Ru.headB at h;rw[N2 (by simp[h]),Nf hc]
theorem Ru.tyI_env {r:Ru}(h:r.headB=true) (hc:r.body.checkI=0):r.tyI=if u5 r.each then r.body.ty r.each else 82:=by
 unfold H5;unfold Ru.headB at h;rw[N2 (by simp[h]),N2 (by simp[hc])];simp only[NK]at h;unfold u5;rw[h.2,JV];by_cases hn:(r.each.map (·.name)).Nodup
 ·simp[hn]
 ·simp[hn]
theorem XE (nm:Nm):bindB ⟨nm,1⟩=yO nm:=by simp[bindB]
section
variable {G:Nat->OK (ON D)}{M:Mk}
abbrev VK (a:Ru):ON D:=[NY [.str (Kx a),.int .i64 1]]
abbrev gK (a:ON D) (b:Bool):Prop:=a=[OD b]
abbrev VJ (a:Ru):Bool:=decide ((↑(OJ (OM N3 (MF a))):Int)>6)
abbrev VI (a:Bool) (b:Ru) (c:Bool):Bool:=bif bif bif bif !a then true else decide (LD b<0)then true else decide (LD b>0)then true else VJ b then true else c
abbrev gJ (a:Ru):ON D:=[OH .i64 (H5 a)]
abbrev VH (a:Ru):ON D:=[NY [.int .i64 (NU (M9 a)),.str (NG (M9 a)),.int .i64 (NA (M9 a)),.sl (OM Nc (NH (M9 a))),.sl (OM N3 (NJ (M9 a))),.sl (OM NX (Nt (M9 a)))]]
abbrev VG (a:Mk) (b:Ru):Prop:=OB Tryz.prog (GG a) 153 (VH b) λ(rs:ON D)=>∃(n:Int),rs=[OH .i64 n]/\((n != 0)=true->[OH .i64 n]=gJ b)/\((n != 0)=false->OB Tryz.prog (GG a) 154 [OE (OM N3 (MF b))] λ(rs:ON D)=>∃(b_1:Bool),gK rs b_1/\((!b_1)=true->[OH .i64 82]=gJ b)/\((!b_1)=false->OB Tryz.prog (GG a) 155 (OE (OM N3 (MF b))::VH b) λ(rs:ON D)=>∃(n:Int),rs=[OH .i64 n]/\[OH .i64 n]=gJ b))
abbrev VF (a:Bool) (b:Ru) (c:Bool):Bool:=bif bif bif bif !a then true else decide (LD b<1)then true else decide (LD b>1000)then true else VJ b then true else c
theorem g20 (hM:M.Ok) (r:Ru) (hl:r.wt<1099511627776):OB Tryz.prog (GG M) 115 [r.d] (· = [.int .i64 r.tyI]):=by
 unfold Ru.wt at hl;have h25:=TK hM r.body (by omega);have h36:=λh=>Ow (M:=M) r.body h r.each (by unfold ml at hl;omega);have h39:=P7 hM ⟨r.name,1⟩ (by simp only;omega);unfold N3 at h39;rw[yK r.body]at h25 h36;unfold Na;refine zn Tryz.func115 ⟨_,rfl⟩ ?_;apply @z7 _ ((Ru.hard r=true->OB Tryz.prog (GG M) 151 (VK r) λ(rs:ON D)=>∃(b:Bool),gK rs b/\OB Tryz.prog (GG M) 152 [OE (OM N3 (MF r)),.fn 150] λ(rs:ON D)=>∃(b_1:Bool),gK rs b_1/\(VI b r b_1=true->[OH .i64 1]=gJ r)/\(VI b r b_1=false->VG M r))/\(Ru.hard r=false->OB Tryz.prog (GG M) 151 (VK r) λ(rs:ON D)=>∃(b:Bool),gK rs b/\OB Tryz.prog (GG M) 152 [OE (OM N3 (MF r)),.fn 150] λ(rs:ON D)=>∃(b_1:Bool),gK rs b_1/\(VF b r b_1=true->[OH .i64 1]=gJ r)/\(VF b r b_1=false->VG M r)))
 ·kernel_rfl
 delta VK gK VI VJ gJ VG VH VF;have hb1:bindB { name:=r.name,sort:=1 }=yO r.name:=XE r.name;have goOn:r.headB=true->OB Tryz.prog (GG M) 153 [NY (uJ r.body)] λrs=>∃(n:Int),rs=[OH Nq n]/\((n != 0)=true->[OH Nq n]=[OH Nq r.tyI])/\((n != 0)=false->OB Tryz.prog (GG M) 154 [OE (OM N3 r.each)] λrs=>∃b,rs=[OD b]/\((!b)=true->[OH Nq 82]=[OH Nq r.tyI])/\((!b)=false->OB Tryz.prog (GG M) 155 [OE (OM N3 r.each),NY (uJ r.body)] λrs=>∃(n:Int),rs=[OH Nq n]/\[OH Nq n]=[OH Nq r.tyI])):=by
  intro hh;refine h25.use ⟨_,rfl,λh=>?_,λh=>?_⟩
  ·rw[Ru.tyI_check hh (by simpa using h)]
  ·have hc:r.body.checkI=0:=by simpa using h
   rw[Ru.tyI_env hh hc];refine(P8 hM r.each (by omega)).use ⟨_,rfl,λh=>?_,λh=>?_⟩
   ·rw[N2 (by simpa using h)]
   ·rw[Nf (by simpa using h)];exact(h36 (rk hc)).use ⟨_,rfl,rfl⟩
 refine⟨λhd=>?_,λhd=>?_⟩
 ·refine h39.use ⟨_,rfl,(Ov hM r.each (by omega)).use ⟨_,rfl,?_⟩⟩;have q:(bif bif bif bif !bindB { name:=r.name,sort:=1 }then true else decide (r.weight<0)then true else decide (r.weight>0)then true else decide ((↑(OM N3 r.each).length:Int)>6)then true else !r.each.all bindB) = !r.headB:=by rw[hb1];unfold Ru.headB ji;rw[hd];rw[MG];cases yO r.name<;>cases r.each.all bindB<;>simp<;>omega
  refine⟨λh=>?_,λh=>?_⟩
  ·have h':=q.symm.trans h;rw[Ru.tyI_bad (by simpa using h')]
  ·have h':=q.symm.trans h;exact goOn (by simpa using h')
 ·refine h39.use ⟨_,rfl,(Ov hM r.each (by omega)).use ⟨_,rfl,?_⟩⟩;have q:(bif bif bif bif !bindB { name:=r.name,sort:=1 }then true else decide (r.weight<1)then true else decide (r.weight>1000)then true else decide ((↑(OM N3 r.each).length:Int)>6)then true else !r.each.all bindB) = !r.headB:=by rw[hb1];unfold Ru.headB ji;rw[hd];rw[MG];cases yO r.name<;>cases r.each.all bindB<;>simp<;>omega
  refine⟨λh=>?_,λh=>?_⟩
  ·have h':=q.symm.trans h;rw[Ru.tyI_bad (by simpa using h')]
  ·have h':=q.symm.trans h;exact goOn (by simpa using h')
end
def ui {α:Type}(P:Ng) (G:Nat->OK (ON D)) (L:α->Loops) (n:Nat) (body:Np) (keep:ON Nat) (Inv:α->Prop) (m:α->Nat) (tmU:α->ON (Nat×AV)) (hU:ON Box->α->ON Box) (tm:ON AV) (H:ON Box) (Q:Post):Prop :=if isScope body then False else ∃x0,Inv x0/\Wk n tm H (jr keep (tmU x0) 0 tm) (hU H x0)/\∀x,Inv x->pw P G (L x) body (jr keep (tmU x) 0 tm) (hU H x) (jt (λtm' H'=>∃y,Inv y/\m y<m x/\Wk n tm' H' (jr keep (tmU y) 0 tm) (hU H y)) Q)
theorem yI {P:Ng}{G:Nat->OK (ON D)}{rd:OK Nat}{n:Nat}{α:Type}(hm:P.follows .mixedOrders=true) {L:α->Loops}{body:Np}{keep:ON Nat}{Inv:α->Prop}{m:α->Nat}{tmU:α->ON (Nat×AV)}{hU:ON Box->α->ON Box}(hL:∀x,zx P G rd n (L x) (loopsOf body)) (tm:ON AV) (H:ON Box) (Q:Post) (h:ui P G L n body keep Inv m tmU hU tm H Q):PW P G rd n (mkLoop body) tm H Q:=by
 unfold ui at h;split at h
 ·exact h.elim
 rename_i hsc;have hl:mkLoop body = .loop body:=by cases body<;>first|rfl|simp[isScope]at hsc
 rw[hl];obtain⟨x0,hi,hw,hr⟩:=h;refine PW.weaken hw (wA _ _ _ _) ?_;refine PW.loop (α:= { x:α // Inv x }) (λx=>jr keep (tmU x.1) 0 tm) (λx=>hU H x.1) (λx=>m x.1) (λx=>wA _ _ _ _) (λx=>?_) ⟨x0,hi⟩;refine(yw hm body _ _ _ (hL x.1) (hr x.1 x.2)).mono λe tm' H' hq=>?_;cases e with
 |normal =>
  obtain⟨y,h1,h2,h3⟩:=hq;exact⟨⟨y,h1⟩,h2,h3⟩
 |_=>exact hq
section
variable {l:ON Ru}{r:Ru}{i:Nat}
theorem oE (h:l[i]? = some r):z1 (l.map Na) i 0=some (.str r.name):=by simp[z1,h,Na,Mw]
theorem ja (h:l[i]? = some r):z1 (l.map Na) i (0+1)=some (.bool r.hard):=by simp[z1,h,Na,Mw]
theorem jZ (h:l[i]? = some r):z1 (l.map Na) i (0+1+1)=some (.int .i64 r.weight):=by simp[z1,h,Na,Mw]
theorem rZ (h:l[i]? = some r):z1 (l.map Na) i (0+1+1+1)=some (.sl (r.each.map N3)):=by simp[z1,h,Na,Mw]
theorem rY (h:l[i]? = some r):z1 (l.map Na) i (0+1+1+1+1)=some (.int .i64 r.body.kind):=by simp[z1,h,Na,Mw]
theorem rX (h:l[i]? = some r):z1 (l.map Na) i (0+1+1+1+1+1)=some (.str r.body.name):=by simp[z1,h,Na,Mw]
theorem rW (h:l[i]? = some r):z1 (l.map Na) i (0+1+1+1+1+1+1)=some (.int .i64 r.body.n):=by simp[z1,h,Na,Mw]
theorem rV (h:l[i]? = some r):z1 (l.map Na) i (0+1+1+1+1+1+1+1)=some (.sl (r.body.ts.map Nc)):=by simp[z1,h,Na,Mw]
theorem rU (h:l[i]? = some r):z1 (l.map Na) i (0+1+1+1+1+1+1+1+1)=some (.sl (r.body.bs.map N3)):=by simp[z1,h,Na,Mw]
theorem rT (h:l[i]? = some r):z1 (l.map Na) i (0+1+1+1+1+1+1+1+1+1)=some (.sl (r.body.l.map NX)):=by simp[z1,h,Na,Mw]
theorem mj (h:l[i]? = some r):zk [.str,.bool,.int .i64,.sl,.int .i64,.str,.int .i64,.sl,.sl,.sl] (l.map Na) i=r.d:=by simp only[zk,Ky,oE h,ja h,jZ h,rZ h,rY h,rX h,rW h,rV h,rU h,rT h];rfl
end
def VE (es:ON (D×D)) (seen:ON Nm):Prop:=(es.all λkv=>sameKind (.str []) kv.1&&L2 .bool kv.2)=true/\∀s,Kz (Nz (zX es (.str s)) (.bool false))=seen.contains s
theorem VE.set {es:ON (D×D)}{seen:ON Nm}{s:Nm}(h:VE es seen):VE (updD es (.str s) (.bool true)) (seen++[s]):=by
 refine⟨YT _ _ es h.1 rfl,λs'=>?_⟩;rw[bm];by_cases e:s'=s
 ·subst e;simp[Kz]
 ·rw[N2 e,h.2 s'];rw[MG];simp[e]
def rwts:ON Ru->Nat
 |[]=>0
 |r::l=>r.wt+rwts l
theorem rwts_mem:∀{l:ON Ru}{r:Ru},r∈l->r.wt<=rwts l
 |x::l,r,h=>by
  rw[rwts];rcases MU.1 h with rfl|h
  ·omega
  ·have:=rwts_mem h;omega
section
variable {G:Nat->OK (ON D)}{M:Mk}
abbrev YK (a:Nat×ON (D×D)) (b:ON Ru):Prop:=N7 a<=OJ b/\VE (NV a) (OM (λ(x:Ru)=>Kx x) (NW (N7 a) b))/\rulesT (OM (λ(x:Ru)=>Kx x) (NW (N7 a) b)) (N7 a) (Lx (N7 a) b)=wp b
abbrev VD (a:ON Ru) (b:Nat×ON (D×D)):D:=zk [NC,Jy,NP .i64,NB,NP .i64,NC,NP .i64,NB,NB,NB] (OM Na a) (N1 (↑(N7 b):Int))
abbrev YJ (a:ON Ru):ON D:=[OH .i64 (N7 (wp a)),.int .i64 (NV (wp a))]
abbrev VC (a:Nat×ON (D×D)) (b:ON Ru):Bool:=Kz (Nz (zX (NV a) ((λ(x:Sh×Nat)=>match x with|(sh,j)=>MK sh (Nz (z1 (OM Na b) (N1 (↑(N7 a):Int)) j) default)) (NC,0))) (OD false))
theorem g18 (hM:M.Ok) (l:ON Ru) (hl:l.length<1099511627776) (hw:rwts l<1099511627776):OB Tryz.prog (GG M) 84 [.sl (l.map Na)] (· = [.int .i64 (wp l).1,.int .i64 (wp l).2]):=by
 refine zr (LL [(3,zT (α:=Nat×ON (D×D)) Tryz.prog (GG M) L0 0 (zz (z6 Tryz.f84) 0) [4,9,10] (λx=>x.1<=l.length/\VE x.2 ((l.take x.1).map (·.name))/\rulesT ((l.take x.1).map (·.name)) x.1 (l.drop x.1)=wp l) (λx=>l.length - x.1) (λx=>[(11,.d (.int .i64 x.1))]) (λ_ x=>[.map x.2]))]) Tryz.func84 ⟨_,rfl⟩ (zm zy) ?_;apply @z7 _ (∃(x0:Nat×ON (D×D)),YK x0 l/\((L1 0=L1 0/\OM Na l=OM Na l/\(↑(OJ (OM Na l)):Int)=(↑(OJ (OM Na l)):Int)/\(0:Int)=(↑(N7 x0):Int)/\OG)/\[]=NV x0/\OG)/\∀(x:Nat×ON (D×D)),YK x l->(decide ((↑(N7 x):Int)<(↑(OJ (OM Na l)):Int))=true->((0:Int)<=(↑(N7 x):Int)/\(OM Na l)[N1 (↑(N7 x):Int)]? = some (VD l x))/\OB Tryz.prog (GG M) 115 [VD l x] λ(rs:ON D)=>∃(n:Int),rs=[OH .i64 n]/\((n != 0)=true->[OH .i64 (↑(N7 x):Int),.int .i64 n]=YJ l)/\((n != 0)=false->(LV (NV x) λ(kv:D×D)=>sameKind ((λ(x_1:Sh×Nat)=>match x_1 with|(sh,j)=>MK sh (Nz (z1 (OM Na l) (N1 (↑(N7 x):Int)) j) default)) (NC,0)) (N7 kv)&&L2 Jy (NV kv))=true/\(VC x l=true->[OH .i64 (↑(N7 x):Int),.int .i64 82]=YJ l)/\(VC x l=false->(LV (NV x) λ(kv:D×D)=>sameKind ((λ(x_1:Sh×Nat)=>match x_1 with|(sh,j)=>MK sh (Nz (z1 (OM Na l) (N1 (↑(N7 x):Int)) j) default)) (NC,0)) (N7 kv))=true/\∃(y:Nat×ON (D×D)),YK y l/\OJ l - N7 y<OJ l - N7 x/\(L1 0=L1 0/\OM Na l=OM Na l/\(↑(OJ (OM Na l)):Int)=(↑(OJ (OM Na l)):Int)/\Nl .i64 ((↑(N7 x):Int)+1)=(↑(N7 y):Int)/\OG)/\updD (NV x) ((λ(x_1:Sh×Nat)=>match x_1 with|(sh,j)=>MK sh (Nz (z1 (OM Na l) (N1 (↑(N7 x):Int)) j) default)) (NC,0)) (OD true)=NV y/\OG)))/\(decide ((↑(N7 x):Int)<(↑(OJ (OM Na l)):Int))=false->[OH .i64 0,.int .i64 0]=YJ l))
 ·kernel_rfl
 delta YK VD YJ VC;refine⟨(0,[]),⟨by simp,⟨rfl,λs=>rfl⟩,rfl⟩,⟨⟨rfl,rfl,rfl,rfl,trivial⟩,rfl,trivial⟩,?_⟩;rintro⟨i,es⟩ ⟨hi,hes,hi2⟩;dsimp only at hi hes hi2 ⊢;refine⟨λhlt=>?_,λhge=>?_⟩
 ·simp only[Nv,NR]at hlt;obtain⟨z,hz,hm⟩:=zt (l:=l) (x:=i) (by omega);rw[yZ hz,rulesT]at hi2;rw[M1,mj hz,oE hz];have hzw:=rwts_mem hm;have e1:MK NC (Nz (some (NZ z.name)) default) = .str z.name:=rfl;refine⟨⟨by omega,by simp[hz]⟩,(g20 hM z (by omega)).use ⟨_,rfl,λh=>?_,λh=>⟨?_,λh2=>?_,λh2=>⟨?_,(i+1,updD es (.str z.name) (.bool true)),⟨by simp only;omega,?_,?_⟩,by simp only;omega,⟨rfl,rfl,rfl,?_,trivial⟩,rfl,trivial⟩⟩⟩⟩
  ·rw[Nf (by simpa using h)]at hi2;rw[←hi2]
  ·have:=hes.1;rw[ND]at this ⊢;intro kv hkv;have:=this kv hkv;have e5:sameKind (NZ []) kv.1=sameKind (NZ z.name) kv.1:=by cases kv.1<;>rfl
   rw[e5]at this;exact this
  ·rw[N2 (by simpa using h)]at hi2;have h3:=(hes.2 z.name).symm.trans h2;rw[Nf h3]at hi2;rw[←hi2]
  ·have:=hes.1;rw[ND]at this ⊢;intro kv hkv;have:=this kv hkv;have e5:sameKind (NZ []) kv.1=sameKind (NZ z.name) kv.1:=by cases kv.1<;>rfl
   rw[e5,NK]at this;exact this.1
  ·simp only;rw[Lb,hz,Lq];exact hes.set
  ·rw[N2 (by simpa using h)]at hi2;have h3:=(hes.2 z.name).symm.trans h2;rw[N2 (by rw[h3];simp)]at hi2;simp only;rw[Lb,hz,Lq];exact hi2
  ·rw[zu (by omega) (by omega)];simp
 ·simp only[Nv,M2]at hge;rw[Ls (by omega),rulesT]at hi2;rw[←hi2]
end
section
variable {G:Nat->OK (ON D)}{M:Mk}
abbrev VB (a:Fm) (b:Int):Bool:=bif bif bif decide ((↑(OJ (OM NX (Nt a))):Int)>4)then true else decide ((↑(OJ (OM Nc (NH a))):Int)>4)then true else decide ((↑(OJ (OM N3 (NJ a))):Int)>10)then true else decide (b>300)
abbrev g35q4:Prop:= ∃(b:Bool),[OD false]=[OD b]
abbrev VA (a:Fm):Prop:=(NU a=NU a/\NG a=NG a/\NA a=NA a/\OM Nc (NH a)=OM Nc (NH a)/\OM N3 (NJ a)=OM N3 (NJ a)/\OM NX (Nt a)=OM NX (Nt a)/\OG)/\OG
abbrev U0 (a:Fm) (b:Nat):D:=zk [NP .i64,NC,NP .i64,NB,NB,NB] (OM NX (Nt a)) (N1 (b:Int))
theorem Oe (f:Fm) (hf:f.wt<4611686018427387904):OB Tryz.prog G 42 [f.d] (λrs=>∃b,rs=[.bool b]):=by
 induction f using KY with
 |h f ih =>
 have h55:=QI (G:=G) f (by have:=f.rank_le_wt;omega);have hwt:=f.wt_eq;have hwl:=oI f.l;rw[yK f]at h55 ⊢;refine zr (LL [(4,zT (α:=Nat) Tryz.prog G L0 0 (zz (z6 Tryz.f42) 0) [1] (λi=>i<=f.l.length) (λi=>f.l.length - i) (λi=>[(3,.d (.int .i64 i))]) (λH _=>H))]) Tryz.func42 ⟨_,true,rfl⟩ (zm zy) ?_;apply @z7 _ (OB Tryz.prog G 80 [NY [.int .i64 (NU f),.str (NG f),.int .i64 (NA f),.sl (OM Nc (NH f)),.sl (OM N3 (NJ f)),.sl (OM NX (Nt f))]] λ(rs:ON D)=>∃(n:Int),rs=[OH .i64 n]/\(VB f n=true->g35q4)/\(VB f n=false->∃(x0:Nat),x0<=OJ (Nt f)/\((N5 0 0=N5 0 0/\(0:Int)=(x0:Int)/\OG)/\VA f)/\∀(x:Nat),x<=OJ (Nt f)->(decide ((x:Int)<(↑(OJ (OM NX (Nt f))):Int))=true->((0:Int)<=(x:Int)/\(OM NX (Nt f))[N1 (x:Int)]? = some (U0 f x))/\OB Tryz.prog G 42 [U0 f x] λ(rs:ON D)=>∃(b:Bool),rs=[OD b]/\((!b)=true->g35q4)/\((!b)=false->∃(y:Nat),y<=OJ (Nt f)/\OJ (Nt f) - y<OJ (Nt f) - x/\(N5 0 0=N5 0 0/\Nl .i64 ((x:Int) + 1)=(y:Int)/\OG)/\VA f))/\(decide ((x:Int)<(↑(OJ (OM NX (Nt f))):Int))=false->∃(b:Bool),[OD true]=[OD b])))
 ·kernel_rfl
 delta VB g35q4 VA U0;refine h55.use ⟨_,rfl,λ_=>⟨_,rfl⟩,λ_=>⟨0,by omega,⟨⟨rfl,rfl,trivial⟩,⟨rfl,rfl,rfl,rfl,rfl,rfl,trivial⟩,trivial⟩,λi hi=>⟨λhlt=>?_,λ_=>⟨_,rfl⟩⟩⟩⟩;simp only[Nv,NR]at hlt;obtain⟨z,hz,hm⟩:=zt (l:=f.l) (x:=i) (by omega);rw[M1,uk hz];have hzw:=HU hm;refine⟨⟨by omega,by simp[hz]⟩,(ih z hm (by omega)).mono ?_⟩;rintro rs ⟨b,rfl⟩;refine⟨b,rfl,λ_=>⟨_,rfl⟩,λ_=>⟨i+1,by omega,by omega,⟨rfl,?_,trivial⟩,⟨rfl,rfl,rfl,rfl,rfl,rfl,trivial⟩,trivial⟩⟩;rw[zu (by omega) (by omega)];simp
end
def envL:En:=[⟨[108],1⟩,⟨[115],2⟩]
def QO (a b:Nm):Fm:= .mk 3 [] 0 [⟨2,a,0⟩,⟨2,b,0⟩] [] []
def allL:Fm:= .mk 14 [] 0 [] [⟨[115],2⟩] [QO [108] [115]]
def ruL:Ru:=⟨[114],true,0,[⟨[108],1⟩],allL⟩
theorem l1:jb envL ⟨3,[115],0⟩=(6,0):=by decide +kernel
theorem l2:wp [ruL,ruL]=(1,82):=by decide +kernel
theorem l3:(QO [108] [115]).tyI envL=0:=by decide +kernel
theorem l4:(QO [115] [108]).tyI envL=80:=by decide +kernel
theorem l5:(QO [108] [116]).tyI envL=81:=by decide +kernel
section
variable {M:Mk}
end
end Go.Fo
open Go.Sx.PFn renaming use->JC
namespace Go.Fo
open Go Go.Sx
structure Sl where
 name:Nm
 day:Int
 hour:Int
 deriving DecidableEq,Inhabited
def Sl.d (x:Sl):D:= .agg [.str x.name,.int .i64 x.day,.int .i64 x.hour]
structure Rm where
 name:Nm
 house:Int
 seats:Int
 shut:ON Int
 deriving DecidableEq,Inhabited
def Rm.d (x:Rm):D:= .agg [.str x.name,.int .i64 x.house,.int .i64 x.seats,.sl (x.shut.map intD)]
structure Pe where
 name:Nm
 away:ON Int
 deriving DecidableEq,Inhabited
def Pe.d (x:Pe):D:= .agg [.str x.name,.sl (x.away.map intD)]
structure Gr where
 name:Nm
 size:Int
 deriving DecidableEq,Inhabited
def Gr.d (x:Gr):D:= .agg [.str x.name,.int .i64 x.size]
structure Le where
 name:Nm
 who:ON Int
 groups:ON Int
 deriving DecidableEq,Inhabited
def Le.d (x:Le):D:= .agg [.str x.name,.sl (x.who.map intD),.sl (x.groups.map intD)]
structure Pl where
 slot:Int
 room:Int
 deriving DecidableEq,Inhabited
def Pl.d (x:Pl):D:= .agg [.int .i64 x.slot,.int .i64 x.room]
structure Ev where
 name:Nm
 sort:Int
 at_:Int
 deriving DecidableEq,Inhabited
def Ev.d (x:Ev):D:= .agg [.str x.name,.int .i64 x.sort,.int .i64 x.at_]
structure Mv where
 lesson:Int
 slot:Int
 room:Int
 deriving DecidableEq,Inhabited
def Mv.d (x:Mv):D:= .agg [.int .i64 x.lesson,.int .i64 x.slot,.int .i64 x.room]
theorem jY {l:ON Sl}{x:Sl}{i:Nat}(h:l[i]? = some x):z1 (l.map Sl.d) i (0)=some (.str x.name):=by simp[z1,h,Sl.d,Mw]
theorem rS {l:ON Sl}{x:Sl}{i:Nat}(h:l[i]? = some x):z1 (l.map Sl.d) i (0+1)=some (.int .i64 x.day):=by simp[z1,h,Sl.d,Mw]
theorem rR {l:ON Sl}{x:Sl}{i:Nat}(h:l[i]? = some x):z1 (l.map Sl.d) i (0+1+1)=some (.int .i64 x.hour):=by simp[z1,h,Sl.d,Mw]
theorem pI {l:ON Sl}{x:Sl}{i:Nat}(h:l[i]? = some x):zk [.str,.int .i64,.int .i64] (l.map Sl.d) i=x.d:=by simp only[zk,Ky,jY h,rS h,rR h];rfl
theorem mi {l:ON Sl}{x:Sl}{i:Nat}(h:l[i]? = some x):(l.map Sl.d)[i]? = some x.d:=by rw[M6,h];rfl
theorem jX {l:ON Rm}{x:Rm}{i:Nat}(h:l[i]? = some x):z1 (l.map Rm.d) i (0)=some (.str x.name):=by simp[z1,h,Rm.d,Mw]
theorem bc {l:ON Rm}{x:Rm}{i:Nat}(h:l[i]? = some x):z1 (l.map Rm.d) i (0+1)=some (.int .i64 x.house):=by simp[z1,h,Rm.d,Mw]
theorem bZ {l:ON Rm}{x:Rm}{i:Nat}(h:l[i]? = some x):z1 (l.map Rm.d) i (0+1+1)=some (.int .i64 x.seats):=by simp[z1,h,Rm.d,Mw]
theorem U1 {l:ON Rm}{x:Rm}{i:Nat}(h:l[i]? = some x):z1 (l.map Rm.d) i (0+1+1+1)=some (.sl (x.shut.map intD)):=by simp[z1,h,Rm.d,Mw]
theorem rQ {l:ON Rm}{x:Rm}{i:Nat}(h:l[i]? = some x):zk [.str,.int .i64,.int .i64,.sl] (l.map Rm.d) i=x.d:=by simp only[zk,Ky,jX h,bc h,bZ h,U1 h];rfl
theorem pH {l:ON Rm}{x:Rm}{i:Nat}(h:l[i]? = some x):(l.map Rm.d)[i]? = some x.d:=by rw[M6,h];rfl
theorem jW {l:ON Pe}{x:Pe}{i:Nat}(h:l[i]? = some x):z1 (l.map Pe.d) i (0)=some (.str x.name):=by simp[z1,h,Pe.d,Mw]
theorem U2 {l:ON Pe}{x:Pe}{i:Nat}(h:l[i]? = some x):z1 (l.map Pe.d) i (0+1)=some (.sl (x.away.map intD)):=by simp[z1,h,Pe.d,Mw]
theorem mh {l:ON Pe}{x:Pe}{i:Nat}(h:l[i]? = some x):zk [.str,.sl] (l.map Pe.d) i=x.d:=by simp only[zk,Ky,jW h,U2 h];rfl
theorem jV {l:ON Pe}{x:Pe}{i:Nat}(h:l[i]? = some x):(l.map Pe.d)[i]? = some x.d:=by rw[M6,h];rfl
theorem jU {l:ON Gr}{x:Gr}{i:Nat}(h:l[i]? = some x):z1 (l.map Gr.d) i (0)=some (.str x.name):=by simp[z1,h,Gr.d,Mw]
theorem bY {l:ON Gr}{x:Gr}{i:Nat}(h:l[i]? = some x):z1 (l.map Gr.d) i (0+1)=some (.int .i64 x.size):=by simp[z1,h,Gr.d,Mw]
theorem jT {l:ON Gr}{x:Gr}{i:Nat}(h:l[i]? = some x):zk [.str,.int .i64] (l.map Gr.d) i=x.d:=by simp only[zk,Ky,jU h,bY h];rfl
theorem eq {l:ON Gr}{x:Gr}{i:Nat}(h:l[i]? = some x):(l.map Gr.d)[i]? = some x.d:=by rw[M6,h];rfl
theorem jS {l:ON Le}{x:Le}{i:Nat}(h:l[i]? = some x):z1 (l.map Le.d) i (0)=some (.str x.name):=by simp[z1,h,Le.d,Mw]
theorem U3 {l:ON Le}{x:Le}{i:Nat}(h:l[i]? = some x):z1 (l.map Le.d) i (0+1)=some (.sl (x.who.map intD)):=by simp[z1,h,Le.d,Mw]
theorem bX {l:ON Le}{x:Le}{i:Nat}(h:l[i]? = some x):z1 (l.map Le.d) i (0+1+1)=some (.sl (x.groups.map intD)):=by simp[z1,h,Le.d,Mw]
theorem rP {l:ON Le}{x:Le}{i:Nat}(h:l[i]? = some x):zk [.str,.sl,.sl] (l.map Le.d) i=x.d:=by simp only[zk,Ky,jS h,U3 h,bX h];rfl
theorem rO {l:ON Le}{x:Le}{i:Nat}(h:l[i]? = some x):(l.map Le.d)[i]? = some x.d:=by rw[M6,h];rfl
theorem vW {l:ON Pl}{x:Pl}{i:Nat}(h:l[i]? = some x):z1 (l.map Pl.d) i (0)=some (.int .i64 x.slot):=by simp[z1,h,Pl.d,Mw]
theorem vV {l:ON Pl}{x:Pl}{i:Nat}(h:l[i]? = some x):z1 (l.map Pl.d) i (0+1)=some (.int .i64 x.room):=by simp[z1,h,Pl.d,Mw]
theorem pG {l:ON Pl}{x:Pl}{i:Nat}(h:l[i]? = some x):zk [.int .i64,.int .i64] (l.map Pl.d) i=x.d:=by simp only[zk,Ky,vW h,vV h];rfl
theorem U4 (l:ON Pl):xW (l.map Pl.d) 2=true:=by unfold xW;rw[ND];intro d hd;obtain⟨t,_,rfl⟩:=Mj.1 hd;rfl
theorem pF {l:ON Pl}{x:Pl}{i:Nat}(h:l[i]? = some x):(l.map Pl.d)[i]? = some x.d:=by rw[M6,h];rfl
theorem jR {l:ON Ev}{x:Ev}{i:Nat}(h:l[i]? = some x):z1 (l.map Ev.d) i (0)=some (.str x.name):=by simp[z1,h,Ev.d,Mw]
theorem oD {l:ON Ev}{x:Ev}{i:Nat}(h:l[i]? = some x):z1 (l.map Ev.d) i (0+1)=some (.int .i64 x.sort):=by simp[z1,h,Ev.d,Mw]
theorem jQ {l:ON Ev}{x:Ev}{i:Nat}(h:l[i]? = some x):z1 (l.map Ev.d) i (0+1+1)=some (.int .i64 x.at_):=by simp[z1,h,Ev.d,Mw]
theorem mg {l:ON Ev}{x:Ev}{i:Nat}(h:l[i]? = some x):zk [.str,.int .i64,.int .i64] (l.map Ev.d) i=x.d:=by simp only[zk,Ky,jR h,oD h,jQ h];rfl
theorem bW (l:ON Ev):xW (l.map Ev.d) 3=true:=by unfold xW;rw[ND];intro d hd;obtain⟨t,_,rfl⟩:=Mj.1 hd;rfl
theorem mf {l:ON Ev}{x:Ev}{i:Nat}(h:l[i]? = some x):(l.map Ev.d)[i]? = some x.d:=by rw[M6,h];rfl
theorem U5 (l:ON Mv):xW (l.map Mv.d) 3=true:=by unfold xW;rw[ND];intro d hd;obtain⟨t,_,rfl⟩:=Mj.1 hd;rfl
structure Sc where
 slots:ON Sl
 rooms:ON Rm
 people:ON Pe
 groups:ON Gr
 lessons:ON Le
 deriving DecidableEq,Inhabited
def Sc.cells (s:Sc):ON D:=[.sl (s.slots.map Sl.d),.sl (s.rooms.map Rm.d),.sl (s.people.map Pe.d),.sl (s.groups.map Gr.d),.sl (s.lessons.map Le.d)]
def Sc.d (s:Sc):D:= .agg s.cells
abbrev Wk':=ON Pl
def wh (w:Wk'):D:= .agg [.sl (w.map Pl.d)]
theorem uG {l:ON Int}{i:Nat}{z:Int}(h:l[i]? = some z):(l.map intD)[i]? = some (.int .i64 z):=by rw[M6,h];rfl
theorem XD {l:ON Nm}{i:Nat}{z:Nm}(h:l[i]? = some z):z1 (l.map NZ) i 0=some (.str z):=by simp[z1,h,Mw]
theorem TG {l:ON Nm}{i:Nat}{z:Nm}(h:l[i]? = some z):(l.map NZ)[i]? = some (.str z):=by rw[M6,h];rfl
end Go.Fo
open Go.Fo.Ev renaming d->NM,name->Fr
open Go.Fo.Gr renaming d->Ny,name->Ft
open Go.Fo.Le renaming d->N8,groups->F0,name->HM
open Go.Fo.Pe renaming d->N9,name->Fu
open Go.Fo.Pl renaming d->Nr
open Go.Fo.Rm renaming d->N6,name->HL
open Go.Fo.Sc renaming groups->Nb,lessons->Nj,people->Nd,rooms->Nh,slots->Ni
open Go.Fo.Sl renaming d->Nx,name->IB
namespace Go.Fo
open Go Go.Sx Go.Proofs
def placesF:Int->ON Int->Int->Bool
 |_,[],_=>true
 |last,z::r,n=>decide (last<z)&&decide (z<n)&&placesF z r n
def yY (l:ON Int) (n:Int):Bool:=placesF (-1) l n
def pi (l:ON Int):Int:=(l.getLast?).getD (-1)
theorem jP {l:ON Int}{x:Nat}{z:Int}(h:l[x]? = some z):pi (l.take (x+1))=z:=by
 have hlt:x<l.length:=by
  rcases M0 x l.length with h' |h'
  ·exact h'
  ·rw[My h']at h;cases h
 unfold pi;rw[Lb,h];simp
def me (x:Sl):Bool:=decide (0<=x.day)&&decide (x.day<=6)&&decide (0<=x.hour)&&decide (x.hour<=11)
def ep (l:ON Sl):Bool:=l.all me&&decide ((l.map λx=>(x.day,x.hour)).Nodup)&& !l.isEmpty
def zZ (l:ON Nm):Bool:=l.all yO&&decide l.Nodup
section
variable {G:Nat->OK (ON D)}
theorem jO {α:Type}{l:ON α}{x:Nat}{z:α}(h:l[x]? = some z):(l.take (x+1)).Nodup↔(l.take x).Nodup/\z∉l.take x:=by
 rw[Lb,h];simp only[FI,G3,KZ,Ja,not_false_eq_true,ON.nodup_nil,and_self,DM,true_and];constructor
 ·rintro⟨h1,h2⟩;exact⟨h1,λhm=>h2 z hm z rfl rfl⟩
 ·rintro⟨h1,h2⟩;exact⟨h1,λa ha b hb e=>by subst hb;subst e;exact h2 ha⟩
def vU (x:Sl):Int×Int:=(x.day,x.hour)
end
structure Sc.Fits (s:Sc):Prop where
 slots:s.slots.length<1099511627776
 rooms:s.rooms.length<1099511627776
 people:s.people.length<1099511627776
 groups:s.groups.length<1099511627776
 lessons:s.lessons.length<1099511627776
 shut:∀x∈s.rooms,x.shut.length<1099511627776
 away:∀x∈s.people,x.away.length<1099511627776
 who:∀x∈s.lessons,x.who.length<1099511627776
 grs:∀x∈s.lessons,x.groups.length<1099511627776
 nsl:∀x∈s.slots,x.name.length<1099511627776
 nrm:∀x∈s.rooms,x.name.length<1099511627776
 npe:∀x∈s.people,x.name.length<1099511627776
 ngr:∀x∈s.groups,x.name.length<1099511627776
 nle:∀x∈s.lessons,x.name.length<1099511627776
def dayNs:ON Nm:=[[100,97,121,48],[100,97,121,49],[100,97,121,50],[100,97,121,51],[100,97,121,52],[100,97,121,53],[100,97,121,54]]
def houseNs:ON Nm:=[[104,111,117,115,101,48],[104,111,117,115,101,49],[104,111,117,115,101,50],[104,111,117,115,101,51],[104,111,117,115,101,52],[104,111,117,115,101,53],[104,111,117,115,101,54],[104,111,117,115,101,55]]
def zh (s:Sc) (k:Int):ON Nm :=if k=1 then s.lessons.map (·.name)else if k=2 then s.slots.map (·.name)else if k=3 then s.rooms.map (·.name)else if k=4 then s.people.map (·.name)else if k=5 then s.groups.map (·.name)else if k=6 then dayNs else if k=7 then houseNs else []
theorem jN (l:ON D) (n:Nm) (hl:xW l 1=true) (h:l.length<1099511627777):FA l [NZ n] 1 16:=by unfold xW at hl;refine⟨by rw[J2,hl];rfl,?_⟩;simp;omega
theorem zf (s:Sc):s.d = .agg [.sl (s.slots.map Nx),.sl (s.rooms.map N6),.sl (s.people.map N9),.sl (s.groups.map Ny),.sl (s.lessons.map N8)]:=rfl
theorem oC {α:Type}(f:α->Nm) (l:ON α):xW (l.map λy=>NZ (f y)) 1=true:=by unfold xW;rw[ND];intro d hd;obtain⟨t,_,rfl⟩:=Mj.1 hd;rfl
section
variable {G:Nat->OK (ON D)}
def h82q13:Prop:=N5 0 0=N5 0 0
def sr (a:Nat) (b:Sc):ON D:=OM (λ(y:Le)=>NZ (HM y)) (NW a (Nj b))
def pE (a:Nat):Prop:=OJ ([]:ON D)<=a
def jM (a:Nat) (b:Int):Prop:=(0:Int)=(a:Int)/\b=b/\OG
def ph (a:Sc):ON D:=OM Nx (Ni a)
def tp (a:Sc):ON D:=OM N6 (Nh a)
def to (a:Sc):ON D:=OM N9 (Nd a)
def pg (a:Sc):ON D:=OM Ny (Nb a)
def pf (a:Sc):ON D:=OM N8 (Nj a)
def rN (a:Sc):Prop:=ph a=ph a/\tp a=tp a/\to a=to a/\pg a=pg a/\pf a=pf a/\OG
def jL (a:Sc):Prop:=rN a/\OG
def pD (a:Nat) (b:Nat) (c:Int):Prop:=Nl .i64 ((a:Int)+1)=(b:Int)/\c=c/\OG
def tn (a:Sc) (b:Int):ON D:=[OE (OM NZ (zh a b))]
def oB (a:Nat) (b:Sc):ON D:=OM (λ(y:Sl)=>NZ (IB y)) (NW a (Ni b))
def oA (a:Nat) (b:Sc):ON D:=OM (λ(y:Rm)=>NZ (HL y)) (NW a (Nh b))
def n8 (a:Nat) (b:Sc):ON D:=OM (λ(y:Pe)=>NZ (Fu y)) (NW a (Nd b))
def nz (a:Nat) (b:Sc):ON D:=OM (λ(y:Gr)=>NZ (Ft y)) (NW a (Nb b))
theorem h82 (s:Sc) (k:Int) (hs:s.Fits):OB Tryz.prog G 82 [s.d,.int .i64 k] (· = [.sl ((zh s k).map NZ)]):=by
 rw[zf];refine zr (LL [(5,zT (α:=Nat) Tryz.prog G L0 0 (zz (z6 Tryz.f82) 0) [2,11] (λx=>x<=s.lessons.length) (λx=>s.lessons.length - x) (λx=>[(5,.vec 1 ((s.lessons.take x).map λy=>NZ y.name)),(6,.d (.int .i64 x))]) (λH x=>[H.getD 0 .dead,.vec x 1])),(10,zT (α:=Nat) Tryz.prog G L0 0 (zz (z6 Tryz.f82) 1) [2,11] (λx=>x<=s.slots.length) (λx=>s.slots.length - x) (λx=>[(5,.vec 1 ((s.slots.take x).map λy=>NZ y.name)),(7,.d (.int .i64 x))]) (λH x=>[H.getD 0 .dead,.vec x 1])),(15,zT (α:=Nat) Tryz.prog G L0 0 (zz (z6 Tryz.f82) 2) [2,11] (λx=>x<=s.rooms.length) (λx=>s.rooms.length - x) (λx=>[(5,.vec 1 ((s.rooms.take x).map λy=>NZ y.name)),(8,.d (.int .i64 x))]) (λH x=>[H.getD 0 .dead,.vec x 1])),(20,zT (α:=Nat) Tryz.prog G L0 0 (zz (z6 Tryz.f82) 3) [2,11] (λx=>x<=s.people.length) (λx=>s.people.length - x) (λx=>[(5,.vec 1 ((s.people.take x).map λy=>NZ y.name)),(9,.d (.int .i64 x))]) (λH x=>[H.getD 0 .dead,.vec x 1])),(25,zT (α:=Nat) Tryz.prog G L0 0 (zz (z6 Tryz.f82) 4) [2,11] (λx=>x<=s.groups.length) (λx=>s.groups.length - x) (λx=>[(5,.vec 1 ((s.groups.take x).map λy=>NZ y.name)),(10,.d (.int .i64 x))]) (λH x=>[H.getD 0 .dead,.vec x 1]))]) Tryz.func82 ⟨_,rfl⟩ (zx.five (b1:=zz (z6 Tryz.f82) 0) (b2:=zz (z6 Tryz.f82) 1) (b3:=zz (z6 Tryz.f82) 2) (b4:=zz (z6 Tryz.f82) 3) (b5:=zz (z6 Tryz.f82) 4) (by kernel_rfl) (by kernel_rfl) (by kernel_rfl) (by kernel_rfl) (by kernel_rfl) (by kernel_rfl) zy zy zy zy zy) ?_;apply @z7 _ (((k==1)=true->∃(x0:Nat),x0<=OJ (Nj s)/\((h82q13/\([]=sr x0 s/\pE x0)/\jM x0 k)/\jL s)/\∀(x:Nat),x<=OJ (Nj s)->(decide ((x:Int)<(↑(OJ (pf s)):Int))=true->((0:Int)<=(x:Int)/\(pf s)[N1 (x:Int)]? = some (zk [NC,NB,NB] (pf s) (N1 (x:Int))))/\(x=OJ (sr x s)/\1=1/\FA (sr x s) [NZ (MJ (Nz (z1 (pf s) (N1 (x:Int)) 0) default))] (nat_lit 1) (nat_lit 16))/\∃(y:Nat),y<=OJ (Nj s)/\OJ (Nj s) - y<OJ (Nj s) - x/\(h82q13/\sr x s++Mx [(λ(x_1:Sh×Nat)=>match x_1 with|(sh,j)=>MK sh (Nz (z1 (OM N8 (Nj s)) (N1 (x:Int)) j) default)) (NC,0)]=sr y s/\pD x y k)/\rN s/\OJ (sr x s)+OJ (Mx [(λ(x_1:Sh×Nat)=>match x_1 with|(sh,j)=>MK sh (Nz (z1 (OM N8 (Nj s)) (N1 (x:Int)) j) default)) (NC,0)])=y/\OG)/\(decide ((x:Int)<(↑(OJ (pf s)):Int))=false->[OE (sr x s)]=tn s k))/\((k==1)=false->((k==2)=true->∃(x0:Nat),x0<=OJ (Ni s)/\((h82q13/\([]=oB x0 s/\pE x0)/\jM x0 k)/\jL s)/\∀(x:Nat),x<=OJ (Ni s)->(decide ((x:Int)<(↑(OJ (ph s)):Int))=true->((0:Int)<=(x:Int)/\(ph s)[N1 (x:Int)]? = some (zk [NC,NP .i64,NP .i64] (ph s) (N1 (x:Int))))/\(x=OJ (oB x s)/\1=1/\FA (oB x s) [NZ (MJ (Nz (z1 (ph s) (N1 (x:Int)) 0) default))] (nat_lit 1) (nat_lit 16))/\∃(y:Nat),y<=OJ (Ni s)/\OJ (Ni s) - y<OJ (Ni s) - x/\(h82q13/\oB x s++Mx [(λ(x_1:Sh×Nat)=>match x_1 with|(sh,j)=>MK sh (Nz (z1 (OM Nx (Ni s)) (N1 (x:Int)) j) default)) (NC,0)]=oB y s/\pD x y k)/\rN s/\OJ (oB x s)+OJ (Mx [(λ(x_1:Sh×Nat)=>match x_1 with|(sh,j)=>MK sh (Nz (z1 (OM Nx (Ni s)) (N1 (x:Int)) j) default)) (NC,0)])=y/\OG)/\(decide ((x:Int)<(↑(OJ (ph s)):Int))=false->[OE (oB x s)]=tn s k))/\((k==2)=false->((k==3)=true->∃(x0:Nat),x0<=OJ (Nh s)/\((h82q13/\([]=oA x0 s/\pE x0)/\jM x0 k)/\jL s)/\∀(x:Nat),x<=OJ (Nh s)->(decide ((x:Int)<(↑(OJ (tp s)):Int))=true->((0:Int)<=(x:Int)/\(tp s)[N1 (x:Int)]? = some (zk [NC,NP .i64,NP .i64,NB] (tp s) (N1 (x:Int))))/\(x=OJ (oA x s)/\1=1/\FA (oA x s) [NZ (MJ (Nz (z1 (tp s) (N1 (x:Int)) 0) default))] (nat_lit 1) (nat_lit 16))/\∃(y:Nat),y<=OJ (Nh s)/\OJ (Nh s) - y<OJ (Nh s) - x/\(h82q13/\oA x s++Mx [(λ(x_1:Sh×Nat)=>match x_1 with|(sh,j)=>MK sh (Nz (z1 (OM N6 (Nh s)) (N1 (x:Int)) j) default)) (NC,0)]=oA y s/\pD x y k)/\rN s/\OJ (oA x s)+OJ (Mx [(λ(x_1:Sh×Nat)=>match x_1 with|(sh,j)=>MK sh (Nz (z1 (OM N6 (Nh s)) (N1 (x:Int)) j) default)) (NC,0)])=y/\OG)/\(decide ((x:Int)<(↑(OJ (tp s)):Int))=false->[OE (oA x s)]=tn s k))/\((k==3)=false->((k==4)=true->∃(x0:Nat),x0<=OJ (Nd s)/\((h82q13/\([]=n8 x0 s/\pE x0)/\jM x0 k)/\jL s)/\∀(x:Nat),x<=OJ (Nd s)->(decide ((x:Int)<(↑(OJ (to s)):Int))=true->((0:Int)<=(x:Int)/\(to s)[N1 (x:Int)]? = some (zk [NC,NB] (to s) (N1 (x:Int))))/\(x=OJ (n8 x s)/\1=1/\FA (n8 x s) [NZ (MJ (Nz (z1 (to s) (N1 (x:Int)) 0) default))] (nat_lit 1) (nat_lit 16))/\∃(y:Nat),y<=OJ (Nd s)/\OJ (Nd s) - y<OJ (Nd s) - x/\(h82q13/\n8 x s++Mx [(λ(x_1:Sh×Nat)=>match x_1 with|(sh,j)=>MK sh (Nz (z1 (OM N9 (Nd s)) (N1 (x:Int)) j) default)) (NC,0)]=n8 y s/\pD x y k)/\rN s/\OJ (n8 x s)+OJ (Mx [(λ(x_1:Sh×Nat)=>match x_1 with|(sh,j)=>MK sh (Nz (z1 (OM N9 (Nd s)) (N1 (x:Int)) j) default)) (NC,0)])=y/\OG)/\(decide ((x:Int)<(↑(OJ (to s)):Int))=false->[OE (n8 x s)]=tn s k))/\((k==4)=false->((k==5)=true->∃(x0:Nat),x0<=OJ (Nb s)/\((h82q13/\([]=nz x0 s/\pE x0)/\jM x0 k)/\jL s)/\∀(x:Nat),x<=OJ (Nb s)->(decide ((x:Int)<(↑(OJ (pg s)):Int))=true->((0:Int)<=(x:Int)/\(pg s)[N1 (x:Int)]? = some (zk [NC,NP .i64] (pg s) (N1 (x:Int))))/\(x=OJ (nz x s)/\1=1/\FA (nz x s) [NZ (MJ (Nz (z1 (pg s) (N1 (x:Int)) 0) default))] (nat_lit 1) (nat_lit 16))/\∃(y:Nat),y<=OJ (Nb s)/\OJ (Nb s) - y<OJ (Nb s) - x/\(h82q13/\nz x s++Mx [(λ(x_1:Sh×Nat)=>match x_1 with|(sh,j)=>MK sh (Nz (z1 (OM Ny (Nb s)) (N1 (x:Int)) j) default)) (NC,0)]=nz y s/\pD x y k)/\rN s/\OJ (nz x s)+OJ (Mx [(λ(x_1:Sh×Nat)=>match x_1 with|(sh,j)=>MK sh (Nz (z1 (OM Ny (Nb s)) (N1 (x:Int)) j) default)) (NC,0)])=y/\OG)/\(decide ((x:Int)<(↑(OJ (pg s)):Int))=false->[OE (nz x s)]=tn s k))/\((k==5)=false->((k==6)=true->[OE [NZ (Mm (Mn (Mi #[(100:UInt8),(97:UInt8),(121:UInt8),(48:UInt8)]))),.str (Mm (Mn (Mi #[(100:UInt8),(97:UInt8),(121:UInt8),(49:UInt8)]))),.str (Mm (Mn (Mi #[(100:UInt8),(97:UInt8),(121:UInt8),(50:UInt8)]))),.str (Mm (Mn (Mi #[(100:UInt8),(97:UInt8),(121:UInt8),(51:UInt8)]))),.str (Mm (Mn (Mi #[(100:UInt8),(97:UInt8),(121:UInt8),(52:UInt8)]))),.str (Mm (Mn (Mi #[(100:UInt8),(97:UInt8),(121:UInt8),(53:UInt8)]))),.str (Mm (Mn (Mi #[(100:UInt8),(97:UInt8),(121:UInt8),(54:UInt8)])))]]=tn s k)/\((k==6)=false->((k==7)=true->[OE [NZ (Mm (Mn (Mi #[(104:UInt8),(111:UInt8),(117:UInt8),(115:UInt8),(101:UInt8),(48:UInt8)]))),.str (Mm (Mn (Mi #[(104:UInt8),(111:UInt8),(117:UInt8),(115:UInt8),(101:UInt8),(49:UInt8)]))),.str (Mm (Mn (Mi #[(104:UInt8),(111:UInt8),(117:UInt8),(115:UInt8),(101:UInt8),(50:UInt8)]))),.str (Mm (Mn (Mi #[(104:UInt8),(111:UInt8),(117:UInt8),(115:UInt8),(101:UInt8),(51:UInt8)]))),.str (Mm (Mn (Mi #[(104:UInt8),(111:UInt8),(117:UInt8),(115:UInt8),(101:UInt8),(52:UInt8)]))),.str (Mm (Mn (Mi #[(104:UInt8),(111:UInt8),(117:UInt8),(115:UInt8),(101:UInt8),(53:UInt8)]))),.str (Mm (Mn (Mi #[(104:UInt8),(111:UInt8),(117:UInt8),(115:UInt8),(101:UInt8),(54:UInt8)]))),.str (Mm (Mn (Mi #[(104:UInt8),(111:UInt8),(117:UInt8),(115:UInt8),(101:UInt8),(55:UInt8)])))]]=tn s k)/\((k==7)=false->[OE []]=tn s k))))))))
 ·kernel_rfl
 delta h82q13 sr pE jM jL rN ph tp to pg pf pD tn oB oA n8 nz;refine⟨λhk1=>?_,λhk1=>?_⟩<;>simp only[beq_iff_eq,beq_eq_false_iff_ne,ne_eq]at hk1
 ·refine⟨0,by omega,⟨⟨rfl,⟨rfl,by simp⟩,rfl,rfl,trivial⟩,⟨rfl,rfl,rfl,rfl,rfl,trivial⟩,trivial⟩,λx hx=>⟨λhlt=>?_,λhge=>?_⟩⟩
  ·simp only[Nv,NR]at hlt;obtain⟨z,hz,hm⟩:=zt (l:=s.lessons) (x:=x) (by omega);have hsX:=hs.lessons;have hl:(OM (λy=>NZ y.name) (NW x s.lessons)).length=x:=by simp;omega
   rw[M1,rP hz];refine⟨⟨by omega,rO hz⟩,⟨hl.symm,rfl,?_⟩,x+1,by omega,by omega,⟨rfl,?_,?_,rfl,trivial⟩,⟨rfl,rfl,rfl,rfl,rfl,trivial⟩,?_,trivial⟩
   ·rw[jS hz];exact jN _ _ (oC _ _) (by rw[hl];omega)
   ·dsimp only;rw[jS hz,Lb,hz,Lq];rfl
   ·rw[zu (by omega) (by omega)];simp
   ·rw[hl];rfl
  ·simp only[Nv,M2]at hge;rw[MY (by omega),zh,Nf (by omega),Io];rfl
 refine⟨λhk2=>?_,λhk2=>?_⟩<;>simp only[beq_iff_eq,beq_eq_false_iff_ne,ne_eq]at hk2
 ·refine⟨0,by omega,⟨⟨rfl,⟨rfl,by simp⟩,rfl,rfl,trivial⟩,⟨rfl,rfl,rfl,rfl,rfl,trivial⟩,trivial⟩,λx hx=>⟨λhlt=>?_,λhge=>?_⟩⟩
  ·simp only[Nv,NR]at hlt;obtain⟨z,hz,hm⟩:=zt (l:=s.slots) (x:=x) (by omega);have hsX:=hs.slots;have hl:(OM (λy=>NZ y.name) (NW x s.slots)).length=x:=by simp;omega
   rw[M1,pI hz];refine⟨⟨by omega,mi hz⟩,⟨hl.symm,rfl,?_⟩,x+1,by omega,by omega,⟨rfl,?_,?_,rfl,trivial⟩,⟨rfl,rfl,rfl,rfl,rfl,trivial⟩,?_,trivial⟩
   ·rw[jY hz];exact jN _ _ (oC _ _) (by rw[hl];omega)
   ·dsimp only;rw[jY hz,Lb,hz,Lq];rfl
   ·rw[zu (by omega) (by omega)];simp
   ·rw[hl];rfl
  ·simp only[Nv,M2]at hge;rw[MY (by omega),zh,N2 (by omega),Nf (by omega),Io];rfl
 refine⟨λhk3=>?_,λhk3=>?_⟩<;>simp only[beq_iff_eq,beq_eq_false_iff_ne,ne_eq]at hk3
 ·refine⟨0,by omega,⟨⟨rfl,⟨rfl,by simp⟩,rfl,rfl,trivial⟩,⟨rfl,rfl,rfl,rfl,rfl,trivial⟩,trivial⟩,λx hx=>⟨λhlt=>?_,λhge=>?_⟩⟩
  ·simp only[Nv,NR]at hlt;obtain⟨z,hz,hm⟩:=zt (l:=s.rooms) (x:=x) (by omega);have hsX:=hs.rooms;have hl:(OM (λy=>NZ y.name) (NW x s.rooms)).length=x:=by simp;omega
   rw[M1,rQ hz];refine⟨⟨by omega,pH hz⟩,⟨hl.symm,rfl,?_⟩,x+1,by omega,by omega,⟨rfl,?_,?_,rfl,trivial⟩,⟨rfl,rfl,rfl,rfl,rfl,trivial⟩,?_,trivial⟩
   ·rw[jX hz];exact jN _ _ (oC _ _) (by rw[hl];omega)
   ·dsimp only;rw[jX hz,Lb,hz,Lq];rfl
   ·rw[zu (by omega) (by omega)];simp
   ·rw[hl];rfl
  ·simp only[Nv,M2]at hge;rw[MY (by omega),zh,N2 (by omega),N2 (by omega),Nf (by omega),Io];rfl
 refine⟨λhk4=>?_,λhk4=>?_⟩<;>simp only[beq_iff_eq,beq_eq_false_iff_ne,ne_eq]at hk4
 ·refine⟨0,by omega,⟨⟨rfl,⟨rfl,by simp⟩,rfl,rfl,trivial⟩,⟨rfl,rfl,rfl,rfl,rfl,trivial⟩,trivial⟩,λx hx=>⟨λhlt=>?_,λhge=>?_⟩⟩
  ·simp only[Nv,NR]at hlt;obtain⟨z,hz,hm⟩:=zt (l:=s.people) (x:=x) (by omega);have hsX:=hs.people;have hl:(OM (λy=>NZ y.name) (NW x s.people)).length=x:=by simp;omega
   rw[M1,mh hz];refine⟨⟨by omega,jV hz⟩,⟨hl.symm,rfl,?_⟩,x+1,by omega,by omega,⟨rfl,?_,?_,rfl,trivial⟩,⟨rfl,rfl,rfl,rfl,rfl,trivial⟩,?_,trivial⟩
   ·rw[jW hz];exact jN _ _ (oC _ _) (by rw[hl];omega)
   ·dsimp only;rw[jW hz,Lb,hz,Lq];rfl
   ·rw[zu (by omega) (by omega)];simp
   ·rw[hl];rfl
  ·simp only[Nv,M2]at hge;rw[MY (by omega),zh,N2 (by omega),N2 (by omega),N2 (by omega),Nf (by omega),Io];rfl
 refine⟨λhk5=>?_,λhk5=>?_⟩<;>simp only[beq_iff_eq,beq_eq_false_iff_ne,ne_eq]at hk5
 ·refine⟨0,by omega,⟨⟨rfl,⟨rfl,by simp⟩,rfl,rfl,trivial⟩,⟨rfl,rfl,rfl,rfl,rfl,trivial⟩,trivial⟩,λx hx=>⟨λhlt=>?_,λhge=>?_⟩⟩
  ·simp only[Nv,NR]at hlt;obtain⟨z,hz,hm⟩:=zt (l:=s.groups) (x:=x) (by omega);have hsX:=hs.groups;have hl:(OM (λy=>NZ y.name) (NW x s.groups)).length=x:=by simp;omega
   rw[M1,jT hz];refine⟨⟨by omega,eq hz⟩,⟨hl.symm,rfl,?_⟩,x+1,by omega,by omega,⟨rfl,?_,?_,rfl,trivial⟩,⟨rfl,rfl,rfl,rfl,rfl,trivial⟩,?_,trivial⟩
   ·rw[jU hz];exact jN _ _ (oC _ _) (by rw[hl];omega)
   ·dsimp only;rw[jU hz,Lb,hz,Lq];rfl
   ·rw[zu (by omega) (by omega)];simp
   ·rw[hl];rfl
  ·simp only[Nv,M2]at hge;rw[MY (by omega),zh,N2 (by omega),N2 (by omega),N2 (by omega),N2 (by omega),Nf (by omega),Io];rfl
 refine⟨λhk6=>?_,λhk6=>?_⟩<;>simp only[beq_iff_eq,beq_eq_false_iff_ne,ne_eq]at hk6
 ·rw[zh,N2 (by omega),N2 (by omega),N2 (by omega),N2 (by omega),N2 (by omega),Nf (by omega)];rfl
 refine⟨λhk7=>?_,λhk7=>?_⟩<;>simp only[beq_iff_eq,beq_eq_false_iff_ne,ne_eq]at hk7
 ·rw[zh,N2 (by omega),N2 (by omega),N2 (by omega),N2 (by omega),N2 (by omega),N2 (by omega),Nf (by omega)];rfl
 ·rw[zh,N2 (by omega),N2 (by omega),N2 (by omega),N2 (by omega),N2 (by omega),N2 (by omega),N2 (by omega)];rfl
theorem h81 (s:Sc) (k:Int) (hs:s.Fits):OB Tryz.prog G 81 [s.d,.int .i64 k] (· = [.int .i64 (zh s k).length]):=by
 have h:=h82 (G:=G) s k hs;rw[zf]at *;refine zn Tryz.func81 ⟨_,rfl⟩ ?_;apply @z7 _ (OB Tryz.prog G 82 [NY [.sl (ph s),.sl (tp s),.sl (to s),.sl (pg s),.sl (pf s)],.int .i64 k] λ(rs:ON D)=>∃(l:ON D),rs=[OE l]/\[OH .i64 (↑(OJ l):Int)]=[OH .i64 (↑(OJ (zh s k)):Int)])
 ·kernel_rfl
 delta ph h82q13 sr pE jM jL rN tp to pg pf pD tn oB oA n8 nz;refine h.use ⟨_,rfl,?_⟩;rw[Nv]
def ya {α:Type}(l:ON α) (f:α->ON Int) (at_ n:Int):Bool:=decide (0<=at_)&&decide (at_<l.length)&&((l[at_.toNat]?).map f|>.getD []).contains n
def U6 (gs:ON Gr) (n z:Int):Int:=if 0<=z/\z<gs.length then Nq.wrap (n+((gs[z.toNat]?).map (·.size)).getD 0)else n
def gI (gs:ON Gr) (l:ON Int):Int:=l.foldl (U6 gs) 0
def jK (s:Sc) (k:Int):Int:=if k<0∨k>=s.lessons.length then 0 else gI s.groups (((s.lessons[k.toNat]?).map (·.groups)).getD [])
theorem sq {α β:Type}(f:β->α->β) (b:β) {l:ON α}{x:Nat}{z:α}(h:l[x]? = some z):(l.take (x+1)).foldl f b=f ((l.take x).foldl f b) z:=by rw[Lb,h,ON.foldl_append];rfl
def wX (n:Int) (x:Rm):Bool:=decide (0<=x.house)&&decide (x.house<=7)&&decide (0<=x.seats)&&decide (x.seats<=1000)&&yY x.shut n
def xG (x:Gr):Bool:=decide (0<=x.size)&&decide (x.size<=1000)
def xw (p g:Int) (x:Le):Bool:=yY x.who p&&yY x.groups g
def wW (s:Sc) (n:Nat):Bool:=(Mq n).all λk=>zZ (zh s (k+1))
def ny (s:Sc):Bool:=wW s 5&&s.rooms.all (wX s.slots.length)&&s.people.all (λx=>yY x.away s.slots.length)&&s.groups.all xG&&s.lessons.all (xw s.people.length s.groups.length)&&ep s.slots&& !s.rooms.isEmpty
theorem XC {s:Sc}(hs:s.Fits) (k:Int):(zh s k).length<4611686018427387904/\∀n∈zh s k,n.length<4611686018427387904:=by
 have h1:=hs.slots;have h2:=hs.rooms;have h3:=hs.people;have h4:=hs.groups;have h5:=hs.lessons;unfold zh;split
 ·refine⟨by simp;omega,λn hn=>?_⟩;obtain⟨x,hx,rfl⟩:=Mj.1 hn;have:=hs.nle x hx;omega
 split
 ·refine⟨by simp;omega,λn hn=>?_⟩;obtain⟨x,hx,rfl⟩:=Mj.1 hn;have:=hs.nsl x hx;omega
 split
 ·refine⟨by simp;omega,λn hn=>?_⟩;obtain⟨x,hx,rfl⟩:=Mj.1 hn;have:=hs.nrm x hx;omega
 split
 ·refine⟨by simp;omega,λn hn=>?_⟩;obtain⟨x,hx,rfl⟩:=Mj.1 hn;have:=hs.npe x hx;omega
 split
 ·refine⟨by simp;omega,λn hn=>?_⟩;obtain⟨x,hx,rfl⟩:=Mj.1 hn;have:=hs.ngr x hx;omega
 split
 ·exact⟨by decide,by decide⟩
 split
 ·exact⟨by decide,by decide⟩
 ·exact⟨by decide,by decide⟩
def xg (s:Sc):Int:=if ny s=false then 1 else if s.slots.length>50∨s.rooms.length>32∨s.people.length>64∨s.groups.length>64∨s.lessons.length>64 then 2 else 0
end
section
variable {G:Nat->OK (ON D)}
def eo (a:Nat×Int) (b:Sc):Prop:=N7 a<=OJ (Nh b)
def h45q12:Prop:=N5 0 0=N5 0 0
def lj (a:Sc):ON D:=OM N6 (Nh a)
def rM (a:Sc):ON D:=OM N9 (Nd a)
def nx (a:Sc):ON D:=OM N8 (Nj a)
def rL (a:Sc):Prop:=(OM Nx (Ni a)=OM Nx (Ni a)/\lj a=lj a/\rM a=rM a/\OM Ny (Nb a)=OM Ny (Nb a)/\nx a=nx a/\OG)/\OG
def jJ (a:Nat×Int):Bool:=decide ((↑(N7 a):Int)<80)
def U7 (a:Nat×Int) (b:Sc):Bool:=bif decide ((↑(N7 a):Int)<(↑(OJ (lj b)):Int))then jJ a else false
def wV (a:Nat×Int):Nat:=N1 (↑(N7 a):Int)
def uh (a:Nat×Int):Int:=(↑(N7 a):Int)+1
def jI (a:Nat×Int) (b:Nat×Int):Prop:=Nl .i64 (uh a)=(↑(N7 b):Int)/\OG
def ej (a:Nat×Int) (b:Sc):Prop:=N7 a<=OJ (Nd b)
def U8 (a:Nat×Int) (b:Sc):Bool:=bif decide ((↑(N7 a):Int)<(↑(OJ (rM b)):Int))then jJ a else false
def YI (a:Nat×Int) (b:Sc):Prop:=N7 a<=OJ (Nj b)
def Zw (a:Nat×Int) (b:Sc):Bool:=bif decide ((↑(N7 a):Int)<(↑(OJ (nx b)):Int))then jJ a else false
def U9 (a:Nat×Int) (b:Sc):Prop:=(0:Int)<=(↑(N7 a):Int)/\(nx b)[wV a]? = some (zk [NC,NB,NB] (nx b) (wV a))
def eh (a:Nat×Int) (b:Sc) (c:Nat×Int):Prop:=N7 a<=OJ (zh b (uh c))
def Uz (a:Nat×Int) (b:ON D):Bool:=bif decide ((↑(N7 a):Int)<(↑(OJ b):Int))then jJ a else false
theorem h45 (s:Sc) (hs:s.Fits):OB Tryz.prog G 45 [s.d] (λrs=>∃b,rs=[.bool b]):=by
 have h82:=λk=>h82 (G:=G) s k hs;rw[zf]at *;refine zr (LL [(3,zT (α:=Nat×Int) Tryz.prog G L0 0 (zz (z6 Tryz.f45) 0) [1] (λx=>x.1<=s.rooms.length) (λx=>s.rooms.length - x.1) (λx=>[(3,.d (.int .i64 x.2)),(4,.d (.int .i64 x.1))]) (λH _=>H)),(7,zT (α:=Nat×Int) Tryz.prog G L0 0 (zz (z6 Tryz.f45) 1) [1] (λx=>x.1<=s.people.length) (λx=>s.people.length - x.1) (λx=>[(3,.d (.int .i64 x.2)),(5,.d (.int .i64 x.1))]) (λH _=>H)),(11,zT (α:=Nat×Int) Tryz.prog G L0 0 (zz (z6 Tryz.f45) 2) [1] (λx=>x.1<=s.lessons.length) (λx=>s.lessons.length - x.1) (λx=>[(3,.d (.int .i64 x.2)),(6,.d (.int .i64 x.1))]) (λH _=>H)),(15,ui (α:=Nat×Int) Tryz.prog G (λi=>LL [(19,zT (α:=Nat×Int) Tryz.prog G L0 0 (zz (zz (z6 Tryz.f45) 3) 0) [1,7,8] (λx=>x.1<=(zh s (i.1+1)).length) (λx=>(zh s (i.1+1)).length - x.1) (λx=>[(3,.d (.int .i64 x.2)),(9,.d (.int .i64 x.1))]) (λH _=>H))]) 0 (zz (z6 Tryz.f45) 3) [1] (λx=>x.1<=5) (λx=>5 - x.1) (λx=>[(3,.d (.int .i64 x.2)),(7,.d (.int .i64 (x.1+1)))]) (λH _=>H))]) Tryz.func45 ⟨_,true,rfl⟩ (zx.four (b1:=zz (z6 Tryz.f45) 0) (b2:=zz (z6 Tryz.f45) 1) (b3:=zz (z6 Tryz.f45) 2) (b4:=zz (z6 Tryz.f45) 3) (by kernel_rfl) (by kernel_rfl) (by kernel_rfl) (by kernel_rfl) (by kernel_rfl) zy zy zy (yI mixed (λ_=>zm zy))) ?_;apply @z7 _ (∃(x0:Nat×Int),eo x0 s/\((h45q12/\0=NV x0/\(0:Int)=(↑(N7 x0):Int)/\OG)/\rL s)/\∀(x:Nat×Int),eo x s->(U7 x s=true->((0:Int)<=(↑(N7 x):Int)/\(lj s)[wV x]? = some (zk [NC,NP .i64,NP .i64,NB] (lj s) (wV x)))/\∃(y:Nat×Int),eo y s/\OJ (Nh s) - N7 y<OJ (Nh s) - N7 x/\(h45q12/\Nl .i64 (NV x+(↑(OJ (MT (Nz (z1 (lj s) (wV x) (0+1+1+1)) default))):Int))=NV y/\jI x y)/\rL s)/\(U7 x s=false->∃(x0:Nat×Int),ej x0 s/\((h45q12/\NV x=NV x0/\(0:Int)=(↑(N7 x0):Int)/\OG)/\rL s)/\∀(x:Nat×Int),ej x s->(U8 x s=true->((0:Int)<=(↑(N7 x):Int)/\(rM s)[wV x]? = some (zk [NC,NB] (rM s) (wV x)))/\∃(y:Nat×Int),ej y s/\OJ (Nd s) - N7 y<OJ (Nd s) - N7 x/\(h45q12/\Nl .i64 (NV x+(↑(OJ (MT (Nz (z1 (rM s) (wV x) (0+1)) default))):Int))=NV y/\jI x y)/\rL s)/\(U8 x s=false->∃(x0:Nat×Int),YI x0 s/\((h45q12/\NV x=NV x0/\(0:Int)=(↑(N7 x0):Int)/\OG)/\rL s)/\∀(x:Nat×Int),YI x s->(Zw x s=true->U9 x s/\U9 x s/\∃(y:Nat×Int),YI y s/\OJ (Nj s) - N7 y<OJ (Nj s) - N7 x/\(h45q12/\Nl .i64 (Nl .i64 (NV x+(↑(OJ (MT (Nz (z1 (nx s) (wV x) (0+1)) default))):Int))+(↑(OJ (MT (Nz (z1 (nx s) (wV x) (0+1+1)) default))):Int))=NV y/\jI x y)/\rL s)/\(Zw x s=false->∃(x0:Nat×Int),N7 x0<=5/\((h45q12/\NV x=NV x0/\1=uh x0/\OG)/\rL s)/\∀(x:Nat×Int),N7 x<=5->(decide (uh x<=5)=true->OB Tryz.prog G 82 [NY [.sl (OM Nx (Ni s)),.sl (lj s),.sl (rM s),.sl (OM Ny (Nb s)),.sl (nx s)],.int .i64 (uh x)] λ(rs:ON D)=>∃(l:ON D),rs=[OE l]/\∃(x0:Nat×Int),eh x0 s x/\((h45q12/\NV x=NV x0/\uh x=uh x/\l=l/\(0:Int)=(↑(N7 x0):Int)/\OG)/\rL s)/\∀(x_1:Nat×Int),eh x_1 s x->(Uz x_1 l=true->((0:Int)<=(↑(N7 x_1):Int)/\l[wV x_1]? = some (NZ (MJ (Nz (z1 l (wV x_1) 0) default))))/\∃(y:Nat×Int),eh y s x/\OJ (zh s (uh x)) - N7 y<OJ (zh s (uh x)) - N7 x_1/\(h45q12/\Nl .i64 (NV x_1+(↑(OJ (MJ (Nz (z1 l (wV x_1) 0) default))):Int))=NV y/\uh x=uh x/\l=l/\jI x_1 y)/\rL s)/\(Uz x_1 l=false->(decide ((↑(OJ l):Int)>80)=true->∃(b:Bool),[OD false]=[OD b])/\(decide ((↑(OJ l):Int)>80)=false->∃(y:Nat×Int),N7 y<=5/\5 - N7 y<5 - N7 x/\(h45q12/\NV x_1=NV y/\Nl .i64 (uh x+1)=uh y/\OG)/\rL s)))/\(decide (uh x<=5)=false->∃(b:Bool),[OD (decide (NV x<=20000))]=[OD b])))))
 ·kernel_rfl
 delta eo h45q12 rL lj rM nx U7 jJ wV jI uh ej U8 YI Zw U9 eh Uz;have hL1:=hs.slots;have hL2:=hs.rooms;have hL3:=hs.people;have hL4:=hs.groups;have hL5:=hs.lessons;refine⟨(0,0),L6 _,⟨⟨rfl,rfl,rfl,trivial⟩,⟨rfl,rfl,rfl,rfl,rfl,trivial⟩,trivial⟩,λx hx=>⟨λhlt=>?_,λ_=>?_⟩⟩
 ·rw[zM,NK,NR,Nv]at hlt;obtain⟨z,hz,hm⟩:=zt (l:=s.rooms) (x:=x.1) (by omega);rw[M1,rQ hz];refine⟨⟨by omega,pH hz⟩,(x.1+1,_),by show x.1+1<=_;omega,by show _ - (x.1+1)<_;omega,⟨rfl,rfl,by rw[zu (by omega) (by omega)];rfl,trivial⟩,⟨rfl,rfl,rfl,rfl,rfl,trivial⟩,trivial⟩
 refine⟨(0,x.2),L6 _,⟨⟨rfl,rfl,rfl,trivial⟩,⟨rfl,rfl,rfl,rfl,rfl,trivial⟩,trivial⟩,λx hx=>⟨λhlt=>?_,λ_=>?_⟩⟩
 ·rw[zM,NK,NR,Nv]at hlt;obtain⟨z,hz,hm⟩:=zt (l:=s.people) (x:=x.1) (by omega);rw[M1,mh hz];refine⟨⟨by omega,jV hz⟩,(x.1+1,_),by show x.1+1<=_;omega,by show _ - (x.1+1)<_;omega,⟨rfl,rfl,by rw[zu (by omega) (by omega)];rfl,trivial⟩,⟨rfl,rfl,rfl,rfl,rfl,trivial⟩,trivial⟩
 refine⟨(0,x.2),L6 _,⟨⟨rfl,rfl,rfl,trivial⟩,⟨rfl,rfl,rfl,rfl,rfl,trivial⟩,trivial⟩,λx hx=>⟨λhlt=>?_,λ_=>?_⟩⟩
 ·rw[zM,NK,NR,Nv]at hlt;obtain⟨z,hz,hm⟩:=zt (l:=s.lessons) (x:=x.1) (by omega);rw[M1,rP hz];refine⟨⟨by omega,rO hz⟩,⟨by omega,rO hz⟩,(x.1+1,_),by show x.1+1<=_;omega,by show _ - (x.1+1)<_;omega,⟨rfl,rfl,by rw[zu (by omega) (by omega)];rfl,trivial⟩,⟨rfl,rfl,rfl,rfl,rfl,trivial⟩,trivial⟩
 refine⟨(0,x.2),L6 _,⟨⟨rfl,rfl,rfl,trivial⟩,⟨rfl,rfl,rfl,rfl,rfl,trivial⟩,trivial⟩,λx hx=>⟨λhlt=>?_,λ_=>⟨_,rfl⟩⟩⟩;have hx5:x.1<5:=by have:=M3 hlt;omega
 obtain⟨f1,f2⟩:=XC hs (x.1+1);refine(h82 (x.1+1)).use ⟨_,rfl,(0,x.2),L6 _,⟨⟨rfl,rfl,rfl,rfl,rfl,trivial⟩,⟨rfl,rfl,rfl,rfl,rfl,trivial⟩,trivial⟩,λy hy=>⟨λhl2=>?_,λ_=>⟨λ_=>⟨_,rfl⟩,λ_=>?_⟩⟩⟩
 ·rw[zM,NK,NR,Nv]at hl2;obtain⟨z,hz,hm⟩:=zt (l:=zh s (x.1+1)) (x:=y.1) (by omega);rw[M1,XD hz];refine⟨⟨by omega,TG hz⟩,(y.1+1,_),by show y.1+1<=_;omega,by show _ - (y.1+1)<_;omega,⟨rfl,rfl,rfl,rfl,by rw[zu (by omega) (by omega)];rfl,trivial⟩,⟨rfl,rfl,rfl,rfl,rfl,trivial⟩,trivial⟩
 ·exact⟨(x.1+1,y.2),by show x.1+1<=5;omega,by show 5 - (x.1+1)<5 - x.1;omega,⟨rfl,rfl,by rw[zu (by omega) (by omega)];rfl,trivial⟩,⟨rfl,rfl,rfl,rfl,rfl,trivial⟩,trivial⟩
def xF (s:Sc) (p:Pl):Bool:=decide (0<=p.slot)&&decide (p.slot<s.slots.length)&&decide (0<=p.room)&&decide (p.room<s.rooms.length)
def ye (s:Sc) (w:ON Pl):Int:=if xg s≠0 then xg s else if w.length≠s.lessons.length∨w.all (xF s)=false then 40 else 0
theorem yq (w:ON Pl):wh w = .agg [.sl (w.map Nr)]:=rfl
def diffL:Nat->ON Pl->ON Pl->ON Mv
 |i,a::r,b::q=>if a≠b then⟨i,b.slot,b.room⟩::diffL (i+1) r q else diffL (i+1) r q
 |_,_,_=>[]
def vT (a b:ON Pl) (x:Nat):ON Mv:=diffL 0 (a.take x) (b.take x)
theorem diffL_snoc:∀(x i:Nat) (a b:ON Pl) (y z:Pl),a[x]? = some y->b[x]? = some z->diffL i (a.take (x+1)) (b.take (x+1))=diffL i (a.take x) (b.take x)++(if y≠z then [⟨i+x,z.slot,z.room⟩]else [])
 |_,_,[],_,_,_,h,_=>by simp at h
 |_,_,_::_,[],_,_,_,h=>by simp at h
 |0,i,a::r,b::q,y,z,h1,h2=>by simp at h1 h2;subst h1;subst h2;simp[diffL]
 |x+1,i,a::r,b::q,y,z,h1,h2=>by
  have ih:=diffL_snoc x (i+1) r q y z (by simpa using h1) (by simpa using h2);simp only[Lj]at ih ⊢;simp only[diffL];rw[ih];have e:((i+1:Nat):Int)+(x:Int)=(i:Int)+((x+1:Nat):Int):=by omega
  rw[e];split<;>rfl
theorem pC {a b:ON Pl}{x:Nat}{y z:Pl}(h1:a[x]? = some y) (h2:b[x]? = some z):vT a b (x+1)=vT a b x++(if y≠z then [⟨x,z.slot,z.room⟩]else []):=by have:=diffL_snoc x 0 a b y z h1 h2;unfold vT;rw[this];simp
theorem diffL_len:∀(i:Nat) (a b:ON Pl),(diffL i a b).length<=b.length
 |_,[],_=>by simp[diffL]
 |_,_::_,[]=>by simp[diffL]
 |i,a::r,b::q=>by have:=diffL_len (i+1) r q;simp only[diffL];split<;>simp<;>omega
theorem XB (a b:ON Pl) (x:Nat):(vT a b x).length<=x:=by have:=diffL_len 0 (a.take x) (b.take x);unfold vT;simp at this ⊢;omega
end
def uF (S R:Nat):ON Pl:=(Mq (S*R)).map λn=>⟨((n / R:Nat):Int),((n % R:Nat):Int)⟩
def XA (P:ON Pl) (w:ON Pl):ON (ON Pl):=P.map λp=>w++[p]
def xj (P:ON Pl):Nat->ON (ON Pl)
 |0=>[[]]
 |n+1=>(xj P n).flatMap (XA P)
def Sc.pls (s:Sc):ON Pl:=uF s.slots.length s.rooms.length
def tl (s:Sc) (most:Int):Bool:=((Mq s.lessons.length).any λy=>decide (((xj s.pls y).length:Int)>most.tdiv (s.slots.length*s.rooms.length:Nat)))||decide (((xj s.pls s.lessons.length).length:Int)>most)
def zB (s:Sc) (most:Int):ON (ON Pl)×Int :=if xg s≠0 then([],xg s)else if most<0 then([],1)else if tl s most then([],2)else(xj s.pls s.lessons.length,0)
theorem TF (S R:Nat):(uF S R).length=S*R:=by simp[uF]
theorem Uy (P w:ON Pl):(XA P w).length=P.length:=by simp[XA]
theorem bV (P:ON Pl):∀n,(xj P n).length=P.length ^ n
 |0=>rfl
 |n+1=>by
  have ih:=bV P n;have h:∀l:ON (ON Pl),(l.flatMap (XA P)).length=l.length*P.length:=by
   intro l;induction l with
   |nil=>simp
   |cons a r ih=>rw[IU,Kb,ih,Uy,MO,Kn];omega
  rw[xj,h,ih,Nat.pow_succ]
theorem bU (P:ON Pl):∀n,∀w∈xj P n,w.length=n
 |0,w,h=>by simp[xj]at h;subst h;rfl
 |n+1,w,h=>by rw[xj,E8]at h;obtain⟨v,hv,hw⟩:=h;unfold XA at hw;obtain⟨p,_,rfl⟩:=Mj.1 hw;simp[bU P n v hv]
theorem jH {s:Sc}(h:xg s=0):ny s=true/\1<=s.slots.length/\s.slots.length<=50/\1<=s.rooms.length/\s.rooms.length<=32/\s.people.length<=64/\s.groups.length<=64/\s.lessons.length<=64:=by
 unfold xg at h;split at h
 ·cases h
 ·rename_i hm;have hm:ny s=true:=by simpa using hm
  split at h
  ·cases h
  ·rename_i hl;have h2:=hm;unfold ny ep at h2;simp only[NK,Lc,ON.isEmpty_eq_false_iff]at h2;have e1:=Hv.2 h2.1.2.2;have e2:=Hv.2 h2.2;exact⟨hm,e1,by omega,e2,by omega,by omega,by omega,by omega⟩
theorem TE {l:ON (ON Pl)}{i:Nat}{w:ON Pl}(h:l[i]? = some w):z1 (l.map wh) i 0=some (.sl (w.map Nr)):=by simp[z1,h,wh,Mw]
theorem Zv {l:ON (ON Pl)}{i:Nat}{w:ON Pl}(h:l[i]? = some w):zk [.sl] (l.map wh) i=wh w:=by simp only[zk,Ky,TE h];rfl
theorem ee {l:ON (ON Pl)}{i:Nat}{w:ON Pl}(h:l[i]? = some w):(l.map wh)[i]? = some (wh w):=by rw[M6,h];rfl
theorem Ux (l:ON (ON Pl)):xW (l.map wh) 1=true:=by unfold xW;rw[ND];intro d hd;obtain⟨t,_,rfl⟩:=Mj.1 hd;rfl
section
variable {G:Nat->OK (ON D)}
end
section
def zI (c x:Int):Int:=if c<x then c else x
def zY (s:Sc) (k:Int):Int:=(zh s k).length
def zV (c:Int) (s:Sc) (bs:ON Bd):Int:=bs.foldl (λn b=>zI c (n*zY s b.sort)) 1
mutual
def Fm.broad (c:Int) (s:Sc):Fm->Int
 |.mk k _ _ _ bs l=>zI c ((if k>=14 then zI c (Fm.broads c s l 0*zV c s bs)else Fm.broads c s l 0)+1)
def Fm.broads (c:Int) (s:Sc):ON Fm->Int->Int
 |[],n=>n
 |x::r,n=>Fm.broads c s r (zI c (n+Fm.broad c s x))
end
theorem Fm.broad_eq (c:Int) (s:Sc) (f:Fm):f.broad c s=zI c ((if f.kind>=14 then zI c (Fm.broads c s f.l 0*zV c s f.bs)else Fm.broads c s f.l 0)+1):=by cases f;rw[Fm.broad];rfl
def xf (s:Sc):ON Ru->Int->Int->Bool
 |[],n,b=>decide (n>4096)||decide (b>1048576)
 |r::q,n,b=>if zV 2097152 s r.each>4096 then true else xf s q (zI 2097152 (n+zV 2097152 s r.each)) (zI 2097152 (b+zV 2097152 s r.each*r.body.broad 2097152 s))
theorem y5 {c x:Int}(hc:0<=c) (hx:0<=x):0<=zI c x/\zI c x<=c:=by unfold zI;split<;>omega
theorem W0 {s:Sc}(hs:s.Fits) (k:Int):(zh s k).length<1099511627776:=by
 have h1:=hs.slots;have h2:=hs.rooms;have h3:=hs.people;have h4:=hs.groups;have h5:=hs.lessons;unfold zh;split
 ·simpa using h5
 split
 ·simpa using h1
 split
 ·simpa using h2
 split
 ·simpa using h3
 split
 ·simpa using h4
 split
 ·decide
 split
 ·decide
 ·decide
theorem tV {s:Sc}(hs:s.Fits) (k:Int):0<=zY s k/\zY s k<1099511627776:=by have:=W0 hs k;unfold zY;omega
theorem tU {a b:Int}(h0:0<=a) (h1:a<=2097152) (h2:0<=b) (h3:b<1099511627776):Nq.wrap (a*b)=a*b/\0<=a*b:=by have h4:=Cn h1 (CM h3) h2 (by decide);have h5:=JX h0 h2;exact⟨zu (by omega) (by omega),h5⟩
theorem yd {s:Sc}(hs:s.Fits) {c:Int}(hc:1<=c):∀bs:ON Bd,0<=zV c s bs/\zV c s bs<=c:=by
 have key:∀(bs:ON Bd) (n:Int),0<=n->n<=c->0<=bs.foldl (λn b=>zI c (n*zY s b.sort)) n/\bs.foldl (λn b=>zI c (n*zY s b.sort)) n<=c:=by
  intro bs;induction bs with
  |nil=>intro n h0 h1;exact⟨h0,h1⟩
  |cons b r ih =>
   intro n h0 h1;have h2:=y5 (c:=c) (x:=n*zY s b.sort) (by omega) (JX h0 (tV hs b.sort).1);exact ih _ h2.1 h2.2
 intro bs;exact key bs 1 (by decide) hc
section
variable {G:Nat->OK (ON D)}
def gH (a:Sc):Prop:=(OM Nx (Ni a)=OM Nx (Ni a)/\OM N6 (Nh a)=OM N6 (Nh a)/\OM N9 (Nd a)=OM N9 (Nd a)/\OM Ny (Nb a)=OM Ny (Nb a)/\OM N8 (Nj a)=OM N8 (Nj a)/\OG)/\OG
def YH (a:Nat) (b:ON Bd):Bool:=decide ((a:Int)<(↑(OJ (OM N3 b)):Int))
theorem h43 (s:Sc) (bs:ON Bd) (hs:s.Fits) (hb:bs.length<4611686018427387904):OB Tryz.prog G 43 [s.d,.sl (bs.map N3)] (· = [.int .i64 (zV 2097152 s bs)]):=by
 have h81:=λk=>h81 (G:=G) s k hs;rw[zf]at *;refine zr (LL [(3,zT (α:=Nat) Tryz.prog G L0 0 (zz (z6 Tryz.f43) 0) [1,2] (λx=>x<=bs.length) (λx=>bs.length - x) (λx=>[(5,.d (.int .i64 (zV 2097152 s (bs.take x)))),(6,.d (.int .i64 x))]) (λH _=>H))]) Tryz.func43 ⟨_,rfl⟩ (zm zy) ?_;apply @z7 _ (∃(x0:Nat),x0<=OJ bs/\((OM N3 bs=OM N3 bs/\N5 0 0=N5 0 0/\1=zV 2097152 s (NW x0 bs)/\(0:Int)=(x0:Int)/\OG)/\gH s)/\∀(x:Nat),x<=OJ bs->(YH x bs=true->((0:Int)<=(x:Int)/\(OM N3 bs)[N1 (x:Int)]? = some (zk [NC,NP .i64] (OM N3 bs) (N1 (x:Int))))/\OB Tryz.prog G 81 [NY [.sl (OM Nx (Ni s)),.sl (OM N6 (Nh s)),.sl (OM N9 (Nd s)),.sl (OM Ny (Nb s)),.sl (OM N8 (Nj s))],.int .i64 (NO (Nz (z1 (OM N3 bs) (N1 (x:Int)) (0+1)) default))] λ(rs:ON D)=>∃(n:Int),rs=[OH .i64 n]/\∃(y:Nat),y<=OJ bs/\OJ bs - y<OJ bs - x/\(OM N3 bs=OM N3 bs/\N5 0 0=N5 0 0/\(if 2097152<Nl .i64 (zV 2097152 s (NW x bs)*n)then 2097152 else Nl .i64 (zV 2097152 s (NW x bs)*n))=zV 2097152 s (NW y bs)/\Nl .i64 ((x:Int)+1)=(y:Int)/\OG)/\gH s)/\(YH x bs=false->[OH .i64 (zV 2097152 s (NW x bs))]=[OH .i64 (zV 2097152 s bs)]))
 ·kernel_rfl
 delta gH YH;refine⟨0,by omega,⟨⟨rfl,rfl,rfl,rfl,trivial⟩,⟨rfl,rfl,rfl,rfl,rfl,trivial⟩,trivial⟩,λx hx=>⟨λhlt=>?_,λhge=>?_⟩⟩
 ·simp only[Nv,NR]at hlt;obtain⟨z,hz,hm⟩:=zt (l:=bs) (x:=x) (by omega);have ei (n:Int):NO (Nz (some (OH .i64 n)) default)=n:=rfl;rw[M1,tt hz,tW hz,ei];refine⟨⟨by omega,by rw[M6,hz];rfl⟩,(h81 z.sort).use ⟨_,rfl,x+1,by omega,by omega,⟨rfl,rfl,?_,by rw[zu (by omega) (by omega)];rfl,trivial⟩,⟨rfl,rfl,rfl,rfl,rfl,trivial⟩,trivial⟩⟩;have hb1:=yd hs (c:=2097152) (by decide) (bs.take x);have hc:=tV hs z.sort;have hw:=tU hb1.1 hb1.2 hc.1 hc.2;have hstep:zV 2097152 s (bs.take (x+1))=zI 2097152 (zV 2097152 s (bs.take x)*zY s z.sort):=sq _ _ hz;rw[hstep,←hw.1];rfl
 ·simp only[Nv,M2]at hge;rw[MY (by omega)]
theorem xM {s:Sc}(hs:s.Fits) {c:Int}(hc:1<=c) (f:Fm):0<=f.broad c s/\f.broad c s<=c:=by
 have key:∀(l:ON Fm),(∀x∈l,0<=x.broad c s/\x.broad c s<=c)->∀n,0<=n->n<=c->0<=Fm.broads c s l n/\Fm.broads c s l n<=c:=by
  intro l;induction l with
  |nil=>intro _ n h0 h1;rw[Fm.broads];exact⟨h0,h1⟩
  |cons x r ih =>
   intro hl n h0 h1;rw[Fm.broads];have h2:=hl x (by simp);have h3:=y5 (c:=c) (x:=n+x.broad c s) (by omega) (by omega);exact ih (λy hy=>hl y (by simp[hy])) _ h3.1 h3.2
 induction f using KY with
 |h f ih =>
  rw[Fm.broad_eq];have h1:=key f.l (λx hx=>ih x hx) 0 (by decide) (by omega);have h2:=yd hs hc f.bs;refine y5 (by omega) ?_;split
  ·have:=y5 (c:=c) (x:=Fm.broads c s f.l 0*zV c s f.bs) (by omega) (JX h1.1 h2.1);omega
  ·omega
theorem gG {s:Sc}(hs:s.Fits) {c:Int}(hc:1<=c):∀(l:ON Fm) n,0<=n->n<=c->0<=Fm.broads c s l n/\Fm.broads c s l n<=c:=by
 intro l;induction l with
 |nil=>intro n h0 h1;rw[Fm.broads];exact⟨h0,h1⟩
 |cons x r ih =>
  intro n h0 h1;rw[Fm.broads];have h2:=xM hs hc x;have h3:=y5 (c:=c) (x:=n+x.broad c s) (by omega) (by omega);exact ih _ h3.1 h3.2
def bT (a:Nat×Int) (b:Fm) (c:Sc):Prop:=N7 a<=OJ (Nt b)/\Fm.broads 2097152 c (Lx (N7 a) (Nt b)) (NV a)=Fm.broads 2097152 c (Nt b) 0/\0<=NV a/\NV a<=2097152
def YG (a:Sc) (b:Fm):Prop:=(OM Nx (Ni a)=OM Nx (Ni a)/\OM N6 (Nh a)=OM N6 (Nh a)/\OM N9 (Nd a)=OM N9 (Nd a)/\OM Ny (Nb a)=OM Ny (Nb a)/\OM N8 (Nj a)=OM N8 (Nj a)/\OG)/\(NU b=NU b/\NG b=NG b/\NA b=NA b/\OM Nc (NH b)=OM Nc (NH b)/\OM N3 (NJ b)=OM N3 (NJ b)/\OM NX (Nt b)=OM NX (Nt b)/\OG)/\OG
def YF (a:Nat×Int) (b:Fm):Bool:=decide ((↑(N7 a):Int)<(↑(OJ (OM NX (Nt b))):Int))
def YE (a:Fm) (b:Nat×Int):D:=zk [NP .i64,NC,NP .i64,NB,NB,NB] (OM NX (Nt a)) (N1 (↑(N7 b):Int))
def gF (a:Sc):D:=NY [.sl (OM Nx (Ni a)),.sl (OM N6 (Nh a)),.sl (OM N9 (Nd a)),.sl (OM Ny (Nb a)),.sl (OM N8 (Nj a))]
def YD (a:Nat×Int) (b:Int):Int:=Nl .i64 ((if 2097152<Nl .i64 (NV a*b)then 2097152 else Nl .i64 (NV a*b))+1)
theorem h44 (s:Sc) (f:Fm) (hs:s.Fits) (hf:f.wt<1099511627776):OB Tryz.prog G 44 [s.d,f.d] (· = [.int .i64 (f.broad 2097152 s)]):=by
 induction f using KY with
 |h f ih =>
 have hwt:=f.wt_eq;have hwl:=oI f.l;have h43:=h43 (G:=G) s f.bs hs (by omega);rw[zf]at *;rw[yK f];refine zr (LL [(3,zT (α:=Nat×Int) Tryz.prog G L0 0 (zz (z6 Tryz.f44) 0) [2,3] (λx=>x.1<=f.l.length/\Fm.broads 2097152 s (f.l.drop x.1) x.2=Fm.broads 2097152 s f.l 0/\0<=x.2/\x.2<=2097152) (λx=>f.l.length - x.1) (λx=>[(5,.d (.int .i64 x.2)),(6,.d (.int .i64 x.1))]) (λH _=>H))]) Tryz.func44 ⟨_,rfl⟩ (zm zy) ?_;apply @z7 _ (∃(x0:Nat×Int),bT x0 f s/\((N5 0 0=N5 0 0/\N5 1 0=N5 1 0/\0=NV x0/\(0:Int)=(↑(N7 x0):Int)/\OG)/\YG s f)/\∀(x:Nat×Int),bT x f s->(YF x f=true->((0:Int)<=(↑(N7 x):Int)/\(OM NX (Nt f))[N1 (↑(N7 x):Int)]? = some (YE f x))/\OB Tryz.prog G 44 [gF s,YE f x] λ(rs:ON D)=>∃(n:Int),rs=[OH .i64 n]/\∃(y:Nat×Int),bT y f s/\OJ (Nt f) - N7 y<OJ (Nt f) - N7 x/\(N5 0 0=N5 0 0/\N5 1 0=N5 1 0/\(if 2097152<Nl .i64 (NV x+n)then 2097152 else Nl .i64 (NV x+n))=NV y/\Nl .i64 ((↑(N7 x):Int)+1)=(↑(N7 y):Int)/\OG)/\YG s f)/\(YF x f=false->(decide (NU f>=14)=true->OB Tryz.prog G 43 [gF s,.sl (OM N3 (NJ f))] λ(rs:ON D)=>∃(n:Int),rs=[OH .i64 n]/\[OH .i64 (if 2097152<YD x n then 2097152 else YD x n)]=[OH .i64 (Fm.broad 2097152 s f)])/\(decide (NU f>=14)=false->[OH .i64 (if 2097152<Nl .i64 (NV x+1)then 2097152 else Nl .i64 (NV x+1))]=[OH .i64 (Fm.broad 2097152 s f)])))
 ·kernel_rfl
 delta bT YG YF YE gF YD;refine⟨(0,0),⟨L6 _,rfl,by decide,by decide⟩,⟨⟨rfl,rfl,rfl,rfl,trivial⟩,⟨rfl,rfl,rfl,rfl,rfl,trivial⟩,⟨rfl,rfl,rfl,rfl,rfl,rfl,trivial⟩,trivial⟩,λx hx=>⟨λhlt=>?_,λhge=>?_⟩⟩
 ·simp only[Nv,NR]at hlt;obtain⟨z,hz,hm⟩:=zt (l:=f.l) (x:=x.1) (by omega);have hzw:=HU hm;obtain⟨i1,i2,i3,i4⟩:=hx;rw[M1,uk hz];have hb:=xM hs (c:=2097152) (by decide) z;have hcap:=y5 (c:=2097152) (x:=x.2+z.broad 2097152 s) (by decide) (by omega);refine⟨⟨by omega,by rw[M6,hz];rfl⟩,(ih z hm (by omega)).use ⟨_,rfl,(x.1+1,zI 2097152 (x.2+z.broad 2097152 s)),⟨by show x.1+1<=_;omega,?_,hcap.1,hcap.2⟩,by show _ - (x.1+1)<_;omega,⟨rfl,rfl,?_,by rw[zu (by omega) (by omega)];rfl,trivial⟩,⟨rfl,rfl,rfl,rfl,rfl,trivial⟩,⟨rfl,rfl,rfl,rfl,rfl,rfl,trivial⟩,trivial⟩⟩
  ·rw[←i2,yZ hz,Fm.broads]
  ·rw[zu (by omega) (by omega)];rfl
 ·simp only[Nv,M2]at hge;obtain⟨i1,i2,i3,i4⟩:=hx;rw[Ls (by omega),Fm.broads]at i2;have hmb:=yd hs (c:=2097152) (by decide) f.bs;refine⟨λhk=>h43.use ⟨_,rfl,?_⟩,λhk=>?_⟩
  ·have hwm:=tU i3 i4 hmb.1 (by omega);have hcap:=y5 (c:=2097152) (x:=x.2*zV 2097152 s f.bs) (by decide) hwm.2;have e1:(if 2097152<x.2*zV 2097152 s f.bs then 2097152 else x.2*zV 2097152 s f.bs)=zI 2097152 (x.2*zV 2097152 s f.bs):=rfl;rw[hwm.1,e1,zu (by omega) (by omega),Fm.broad_eq,Nf (M3 hk),←i2];rfl
  ·rw[zu (by omega) (by omega),Fm.broad_eq,N2 (of_decide_eq_false hk),←i2];rfl
def YC (a:Nat×Int×Int) (b:ON Ru) (c:Sc):Prop:=N7 a<=OJ b/\xf c (Lx (N7 a) b) (N7 (NV a)) (NV (NV a))=xf c b 0 0/\0<=N7 (NV a)/\N7 (NV a)<=2097152/\0<=NV (NV a)/\NV (NV a)<=2097152
def Uw (a:Nat×Int×Int) (b:ON Ru):Bool:=decide ((↑(N7 a):Int)<(↑(OJ (OM Na b)):Int))
def pe (a:Nat×Int×Int):Nat:=N1 (↑(N7 a):Int)
def Uv (a:Nat×Int×Int) (b:ON Ru):Prop:=(0:Int)<=(↑(N7 a):Int)/\(OM Na b)[pe a]? = some (zk [NC,Jy,NP .i64,NB,NP .i64,NC,NP .i64,NB,NB,NB] (OM Na b) (pe a))
def Uu (a:Nat×Int×Int) (b:Int) (c:Int):Int:=Nl .i64 (NV (NV a)+Nl .i64 (b*c))
theorem h46 (s:Sc) (l:ON Ru) (hs:s.Fits) (hl:l.length<1099511627776) (hw:rwts l<1099511627776):OB Tryz.prog G 46 [s.d,.sl (l.map Na)] (· = [.bool (xf s l 0 0)]):=by
 have h43:=λbs h=>h43 (G:=G) s bs hs h;have h44:=λf h=>h44 (G:=G) s f hs h;rw[zf]at *;refine zr (LL [(4,zT (α:=Nat×Int×Int) Tryz.prog G L0 0 (zz (z6 Tryz.f46) 0) [1,2] (λx=>x.1<=l.length/\xf s (l.drop x.1) x.2.1 x.2.2=xf s l 0 0/\0<=x.2.1/\x.2.1<=2097152/\0<=x.2.2/\x.2.2<=2097152) (λx=>l.length - x.1) (λx=>[(5,.d (.int .i64 x.2.1)),(6,.d (.int .i64 x.2.2)),(7,.d (.int .i64 x.1))]) (λH _=>H))]) Tryz.func46 ⟨_,rfl⟩ (zm zy) ?_;apply @z7 _ (∃(x0:Nat×Int×Int),YC x0 l s/\((OM Na l=OM Na l/\N5 0 0=N5 0 0/\0=N7 (NV x0)/\0=NV (NV x0)/\(0:Int)=(↑(N7 x0):Int)/\OG)/\gH s)/\∀(x:Nat×Int×Int),YC x l s->(Uw x l=true->Uv x l/\OB Tryz.prog G 43 [gF s,.sl (MT (Nz (z1 (OM Na l) (pe x) (0+1+1+1)) default))] λ(rs:ON D)=>∃(n:Int),rs=[OH .i64 n]/\(decide (n>4096)=true->[OD true]=[OD (xf s l 0 0)])/\(decide (n>4096)=false->Uv x l/\OB Tryz.prog G 44 [gF s,.agg [.int .i64 (NO (Nz (z1 (OM Na l) (pe x) (0+1+1+1+1)) default)),.str (MJ (Nz (z1 (OM Na l) (pe x) (0+1+1+1+1+1)) default)),.int .i64 (NO (Nz (z1 (OM Na l) (pe x) (0+1+1+1 + 1+1+1)) default)),.sl (MT (Nz (z1 (OM Na l) (pe x) (0+1+1+1+1+1+1+1)) default)),.sl (MT (Nz (z1 (OM Na l) (pe x) (0+1+1+1+1+1+1+1+1)) default)),.sl (MT (Nz (z1 (OM Na l) (pe x) (0+1+1+1+1+1+1+1+1+1)) default))]] λ(rs:ON D)=>∃(n_1:Int),rs=[OH .i64 n_1]/\∃(y:Nat×Int×Int),YC y l s/\OJ l - N7 y<OJ l - N7 x/\(OM Na l=OM Na l/\N5 0 0=N5 0 0/\(if 2097152<Nl .i64 (N7 (NV x)+n)then 2097152 else Nl .i64 (N7 (NV x)+n))=N7 (NV y)/\(if 2097152<Uu x n n_1 then 2097152 else Uu x n n_1)=NV (NV y)/\Nl .i64 ((↑(N7 x):Int)+1)=(↑(N7 y):Int)/\OG)/\gH s))/\(Uw x l=false->[OD (bif decide (N7 (NV x)>4096)then true else decide (NV (NV x)>1048576))]=[OD (xf s l 0 0)]))
 ·kernel_rfl
 delta YC gH YH Uw Uv pe gF bT YG YF YE YD Uu;refine⟨(0,0,0),⟨L6 _,rfl,by decide,by decide,by decide,by decide⟩,⟨⟨rfl,rfl,rfl,rfl,rfl,trivial⟩,⟨rfl,rfl,rfl,rfl,rfl,trivial⟩,trivial⟩,λx hx=>⟨λhlt=>?_,λhge=>?_⟩⟩
 ·simp only[Nv,NR]at hlt;obtain⟨z,hz,hm⟩:=zt (l:=l) (x:=x.1) (by omega);obtain⟨i1,i2,i3,i4,i5,i6⟩:=hx;have hzw:=rwts_mem hm;have hzw2:z.wt=z.name.length+ml z.each+z.body.wt:=rfl;have hew:z.each.length<=ml z.each:=by unfold ml;omega
  have ei (n:Int):NO (Nz (some (OH .i64 n)) default)=n:=rfl;have es (n:Nm):MJ (Nz (some (NZ n)) default)=n:=rfl;have el (l:ON D):MT (Nz (some (OE l)) default)=l:=rfl;rw[M1,mj hz,rZ hz,rY hz,rX hz,rW hz,rV hz,rU hz,rT hz,ei,ei,es,el,el,el,el];have hg:0<=(x.1:Int)/\(OM Na l)[x.1]? = some z.d:=⟨by omega,by rw[M6,hz];rfl⟩;have hmb:=yd hs (c:=2097152) (by decide) z.each;have hbb:=xM hs (c:=2097152) (by decide) z.body;have h44z:=h44 z.body (by omega);rw[yK z.body]at h44z;have hwm:=tU hmb.1 hmb.2 hbb.1 (by omega);have i2':=i2;rw[yZ hz,xf]at i2';refine⟨hg,(h43 z.each (by omega)).use ⟨_,rfl,λhk=>?_,λhk=>⟨hg,h44z.use ⟨_,rfl,(x.1+1,zI 2097152 (x.2.1+zV 2097152 s z.each),zI 2097152 (x.2.2+zV 2097152 s z.each*z.body.broad 2097152 s)),⟨by show x.1+1<=_;omega,?_,(y5 (by decide) (by omega)).1,(y5 (by decide) (by omega)).2,(y5 (by decide) (by omega)).1,(y5 (by decide) (by omega)).2⟩,by show _ - (x.1+1)<_;omega,⟨rfl,rfl,?_,?_,by rw[zu (by omega) (by omega)];rfl,trivial⟩,⟨rfl,rfl,rfl,rfl,rfl,trivial⟩,trivial⟩⟩⟩⟩
  ·rw[Nf (M3 hk)]at i2';rw[←i2']
  ·rw[N2 (of_decide_eq_false hk)]at i2';exact i2'
  ·rw[zu (by omega) (by omega)];rfl
  ·have hup:=Cn hmb.2 hbb.2 hbb.1 (by decide);rw[hwm.1,zu (by omega) (by omega)];rfl
 ·simp only[Nv,M2]at hge;obtain⟨i1,i2,i3⟩:=hx;rw[Ls (by omega),xf]at i2;rw[←i2,yi]
end
end
open Go.Fo.Fm renaming broad_eq->JG,broads->MC
def md (c:Nat) (t:ON Int):ON (ON Int):=(Mq c).map λ(n:Nat)=>t++[(n:Int)]
def zb (s:Sc) (bs:ON Bd):ON (ON Int):=bs.foldl (λout b=>out.flatMap (md (zh s b.sort).length)) [[]]
def vl (t:ON Int):D:= .sl (t.map intD)
def yR (bs:ON Bd) (t:ON Int):ON Ev:=(bs.zip t).map λp=>⟨p.1.name,p.1.sort,p.2⟩
def uw (env:ON Ev) (nm:Nm):Ev:=(env.find? λy=>y.name==nm).getD ⟨[],0,0⟩
def SU (a:Int) (sg:Nm) (b:Int):Bool :=if sg=[61]then a==b else if sg=[33,61]then a != b else if sg=[60]then decide (a<b)else if sg=[60,61]then decide (a<=b)else if sg=[62]then decide (a>b)else decide (a>=b)
def mc (s:Sc) (i:Int):Sl:=(s.slots[i.toNat]?).getD ⟨[],0,0⟩
def ed (s:Sc) (i:Int):Rm:=(s.rooms[i.toNat]?).getD ⟨[],0,0,[]⟩
def nw (s:Sc) (x:Ev) (t:Tm):Int :=if t.kind=1 then t.n else if t.kind=3 then(mc s x.at_).day else if t.kind=4 then(mc s x.at_).hour else if t.kind=5 then(ed s x.at_).house else if t.kind=6 then(ed s x.at_).seats else if t.kind=7 then jK s x.at_ else if x.sort=2 then Nq.wrap (Nq.wrap (12*(mc s x.at_).day)+(mc s x.at_).hour)else x.at_
def Py (s:Sc) (i:Int):Prop:=0<=i/\i<s.slots.length
def Ou (s:Sc) (i:Int):Prop:=0<=i/\i<s.rooms.length
structure ValOk (s:Sc) (x:Ev) (t:Tm):Prop where
 sl:t.kind=3∨t.kind=4->Py s x.at_
 rm:t.kind=5∨t.kind=6->Ou s x.at_
 sv:t.kind≠1->t.kind≠3->t.kind≠4->t.kind≠5->t.kind≠6->t.kind≠7->x.sort=2->Py s x.at_
theorem nv (c:Nat) (t:ON Int):(md c t).length=c:=by simp[md]
theorem mb (c:Int) (s:Sc) {bs:ON Bd}{x:Nat}{b:Bd}(h:bs[x]? = some b):zV c s (bs.take (x+1))=zI c (zV c s (bs.take x)*zY s b.sort):=sq _ _ h
theorem rK (s:Sc) {bs:ON Bd}{x:Nat}{b:Bd}(h:bs[x]? = some b):zb s (bs.take (x+1))=(zb s (bs.take x)).flatMap (md (zh s b.sort).length):=sq _ _ h
theorem gE {s:Sc}(hs:s.Fits) {c:Int}(hc:1<=c) {bs:ON Bd}(h0:0<zV c s bs) (h1:zV c s bs<c):∀d x,x+d=bs.length->0<zV c s (bs.take x)/\zV c s (bs.take x)<=zV c s bs
 |0,x,h=>by rw[MY (by omega)];exact⟨h0,JT _⟩
 |d+1,x,h=>by
  obtain⟨i1,i2⟩:=gE hs hc h0 h1 d (x+1) (by omega);obtain⟨b,hb,_⟩:=zt (l:=bs) (x:=x) (by omega);have hbd:=yd hs hc (bs.take x);have hcb:=tV hs b.sort;rw[mb c s hb]at i1 i2;unfold zI at i1 i2;split at i2
  ·omega
  ·rename_i hlt;rw[N2 hlt]at i1;have hm0:0<zV c s (bs.take x):=by
    rcases IV hbd.1 with h|h
    ·exact h
    ·rw[←h,Int.zero_mul]at i1;omega
   have hc0:0<zY s b.sort:=by
    rcases IV hcb.1 with h|h
    ·exact h
    ·rw[←h,Int.mul_zero]at i1;omega
   have:=HG (show 1<=zY s b.sort by omega) (CM hm0);omega
theorem sp (c:Nat):∀l:ON (ON Int),(l.flatMap (md c)).length=l.length*c
 |[]=>by simp
 |a::r=>by rw[IU,Kb,sp c r,nv,MO,Kn];omega
theorem eZ {s:Sc}(hs:s.Fits) {c:Int}(hc:1<=c) {bs:ON Bd}(h0:0<zV c s bs) (h1:zV c s bs<c):∀x,x<=bs.length->((zb s (bs.take x)).length:Int)=zV c s (bs.take x)
 |0,_=>rfl
 |x+1,h=>by
  have ih:=eZ hs hc h0 h1 x (by omega);obtain⟨b,hb,_⟩:=zt (l:=bs) (x:=x) (by omega);obtain⟨i1,i2⟩:=gE hs hc h0 h1 (bs.length - (x+1)) (x+1) (by omega);rw[mb c s hb]at i2 ⊢;rw[rK s hb,sp,Int.natCast_mul,ih];unfold zI at i2 ⊢;split at i2
  ·omega
  ·rename_i hlt;rw[N2 hlt];rfl
theorem nu (s:Sc) (bs:ON Bd):∀x,x<=bs.length->∀t∈zb s (bs.take x),t.length=x
 |0,_,t,ht=>by simp[zb]at ht;subst ht;rfl
 |x+1,h,t,ht=>by obtain⟨b,hb,_⟩:=zt (l:=bs) (x:=x) (by omega);rw[rK s hb,E8]at ht;obtain⟨u,hu,ht⟩:=ht;unfold md at ht;obtain⟨n,_,rfl⟩:=Mj.1 ht;simp[nu s bs x (by omega) u hu]
theorem jG {s:Sc}{bs:ON Bd}(h:zV 2097152 s bs=0):zb s bs=[]:=by
 have key:∀(bs:ON Bd) (n:Int) (out:ON (ON Int)),(n≠0∨out=[])->bs.foldl (λn b=>zI 2097152 (n*zY s b.sort)) n=0->bs.foldl (λout b=>out.flatMap (md (zh s b.sort).length)) out=[]:=by
  intro bs;induction bs with
  |nil =>
   intro n out h1 h2;have h2:n=0:=h2;rcases h1 with h1|h1
   ·exact No h2 h1
   ·exact h1
  |cons b r ih =>
   intro n out h1 h2;rw[ON.foldl_cons]at h2 ⊢;refine ih _ _ ?_ h2;rcases h1 with h1|h1
   ·by_cases hc:zY s b.sort=0
    ·right;have:(zh s b.sort).length=0:=by unfold zY at hc;omega
     rw[this];unfold md;simp
    ·left;unfold zI;split
     ·decide
     ·intro h;rcases Int.mul_eq_zero.1 h with h|h
      ·exact h1 h
      ·exact hc h
   ·right;rw[h1];rfl
 exact key bs 1 [[]] (.inl (by decide)) h
section
variable {G:Nat->OK (ON D)}
theorem bS {bs:ON Bd}{t:ON Int}{x:Nat}{b:Bd}{v:Int}(h1:bs[x]? = some b) (h2:t[x]? = some v):yR (bs.take (x+1)) t=yR (bs.take x) t++[⟨b.name,b.sort,v⟩]:=by
 have key:∀(x:Nat) (bs:ON Bd) (t:ON Int),bs[x]? = some b->t[x]? = some v->(bs.take (x+1)).zip t=(bs.take x).zip t++[(b,v)]:=by
  intro x;induction x with
  |zero =>
   intro bs t h1 h2;cases bs with
   |nil=>simp at h1
   |cons a r=>cases t with
    |nil=>simp at h2
    |cons w q=>simp at h1 h2;subst h1;subst h2;simp
  |succ x ih =>
   intro bs t h1 h2;cases bs with
   |nil=>simp at h1
   |cons a r=>cases t with
    |nil=>simp at h2
    |cons w q =>
     have:=ih r q (by simpa using h1) (by simpa using h2);simp only[Lj,FK]at this ⊢;rw[this];rfl
 unfold yR;rw[key x bs t h1 h2,Lq];rfl
end
section
def xE (w:ON Pl) (i:Int):Pl:=(w[i.toNat]?).getD ⟨0,0⟩
def Ut (s:Sc) (w:ON Pl) (env:ON Ev) (k:Int) (op:Nm) (t u:Tm):Bool :=if k=9 then SU (nw s (uw env t.name) t) op (nw s (uw env u.name) u)else if k=3 then(xE w (uw env t.name).at_).slot==(uw env u.name).at_ else if k=4 then(xE w (uw env t.name).at_).room==(uw env u.name).at_ else if k=5 then ya s.lessons (·.who) (uw env u.name).at_ (uw env t.name).at_ else if k=6 then ya s.lessons (·.groups) (uw env u.name).at_ (uw env t.name).at_ else if k=7 then ya s.people (·.away) (uw env t.name).at_ (uw env u.name).at_ else ya s.rooms (·.shut) (uw env t.name).at_ (uw env u.name).at_
def Zu (k n:Int) (c all:Nat):Bool :=if k=14 then c==all else if k=15 then decide (c>0)else if k=16 then decide ((c:Int)>=n)else decide ((c:Int)<=n)
mutual
def Fm.sem (s:Sc) (w:ON Pl):Fm->ON Ev->Bool
 |.mk k op n ts bs l,env =>
  if k=1 then true else if k=2 then false else if k=10 then !Fm.semL s w l 0 env else if k=11 then Fm.semL s w l 0 env&&Fm.semL s w l 1 env
  else if k=12 then Fm.semL s w l 0 env||Fm.semL s w l 1 env else if k=13 then !Fm.semL s w l 0 env||Fm.semL s w l 1 env
  else if k<14 then Ut s w env k op (vH ts 0) (vH ts 1)
  else Zu k n ((zb s bs).countP λt=>Fm.semL s w l 0 (env++yR bs t)) (zb s bs).length
def Fm.semL (s:Sc) (w:ON Pl):ON Fm->Nat->ON Ev->Bool
 |[],_,_=>false
 |x::_,0,env=>Fm.sem s w x env
 |_::r,i+1,env=>Fm.semL s w r i env
end
def Ev.b (y:Ev):Bd:=⟨y.name,y.sort⟩
structure Pre (s:Sc) (w:ON Pl) (env:ON Ev) (f:Fm):Prop where
 form:f.formB=true
 ty:f.ty (env.map Ev.b)=0
 small:f.broad 2097152 s<=1048576
 inE:∀y∈env,0<=y.at_/\y.at_<zY s y.sort
 wk:w.length=s.lessons.length
 len:env.length+f.wt<1099511627776
theorem Us {env:ON Ev}{nm:Nm}(h:yf (env.map Ev.b) nm=true):uw env nm∈env/\(uw env nm).name=nm/\sortE (env.map Ev.b) nm=(uw env nm).sort:=by
 induction env with
 |nil=>cases h
 |cons y r ih =>
  by_cases hy:(y.name==nm)=true
  ·have:uw (y::r) nm=y:=by unfold uw;rw[KP,hy];rfl
   rw[this];refine⟨by simp,by simpa using hy,?_⟩;rw[Mf,sortE];have:(y.b.name==nm)=true:=hy;rw[Nf this];rfl
  ·have hy':(y.name==nm)=false:=by simpa using hy
   have hr:yf (r.map Ev.b) nm=true:=by simp only[Mf,yf,K7,L4]at h;exact h.resolve_left hy
   obtain⟨i1,i2,i3⟩:=ih hr;have:uw (y::r) nm=uw r nm:=by unfold uw;rw[KP,hy']
   rw[this];refine⟨by simp[i1],i2,?_⟩;rw[Mf,sortE];have:¬ (y.b.name==nm)=true:=hy;rw[N2 this];exact i3
theorem li (s:Sc):zY s 2=s.slots.length:=by unfold zY zh;simp
theorem bQ (s:Sc):zY s 3=s.rooms.length:=by unfold zY zh;simp
theorem pd (s:Sc):zY s 1=s.lessons.length:=by unfold zY zh;simp
theorem Ur {s:Sc}{env:ON Ev}{t:Tm}(hin:∀y∈env,0<=y.at_/\y.at_<zY s y.sort) (h:(zL (env.map Ev.b) t).2=0):ValOk s (uw env t.name) t:=by
 unfold zL at h;split at h
 ·rename_i hk;exact⟨λh=>by omega,λh=>by omega,λh=>No hk h⟩
 ·split at h
  ·cases h
  ·rename_i hh;have hh:yf (env.map Ev.b) t.name=true:=by simpa using hh
   obtain⟨o1,o2,o3⟩:=Us hh;obtain⟨b1,b2⟩:=hin _ o1;split at h
   ·cases h
   ·rename_i hq;rw[o3]at hq;refine⟨λhk=>?_,λhk=>?_,λ_ _ _ _ _ _ h2=>?_⟩
    ·have ha:pO t.kind=2:=by rcases hk with hk|hk<;>rw[hk]<;>rfl
     rw[ha]at hq;have:(uw env t.name).sort=2:=by
      rcases EX ((uw env t.name).sort=2)with h|h
      ·exact h
      ·exact No ⟨by decide,h⟩ hq
     rw[this,li]at b2;exact⟨b1,b2⟩
    ·have ha:pO t.kind=3:=by rcases hk with hk|hk<;>rw[hk]<;>rfl
     rw[ha]at hq;have:(uw env t.name).sort=3:=by
      rcases EX ((uw env t.name).sort=3)with h|h
      ·exact h
      ·exact No ⟨by decide,h⟩ hq
     rw[this,bQ]at b2;exact⟨b1,b2⟩
    ·rw[h2,li]at b2;exact⟨b1,b2⟩
theorem SS {s:Sc}{env:ON Ev}{t:Tm}{k:Int}(hin:∀y∈env,0<=y.at_/\y.at_<zY s y.sort) (hk:t.kind=2) (h:gQ (env.map Ev.b) t k=0):0<=(uw env t.name).at_/\(uw env t.name).at_<zY s k:=by
 have hk1:¬ t.kind=1:=by omega
 have ha:pO t.kind=0:=by rw[hk];rfl
 have hg:∀x,jj t.kind x=x:=λx=>by rw[hk];rfl
 have ht:zL (env.map Ev.b) t=if yf (env.map Ev.b) t.name=false then(0,81)else(sortE (env.map Ev.b) t.name,0):=by unfold zL;rw[N2 hk1,ha,hg];simp
 unfold gQ at h;rw[ht]at h;cases hh:yf (env.map Ev.b) t.name with
 |false=>rw[hh]at h;simp at h
 |true =>
  obtain⟨o1,o2,o3⟩:=Us hh;rw[hh,o3]at h;simp only[Bool.true_eq_false,if_false,true_and,ne_eq,ite_not]at h;have hso:(uw env t.name).sort=k:=by
   split at h
   ·assumption
   ·cases h
  have:=hin _ o1;rw[hso]at this;exact this
section
variable {G:Nat->OK (ON D)}
end
end
open Go.Fo.Ev renaming b->ME
theorem u6 {c v m:Int}(h:zI c v<=m) (hm:m<c):v<=m:=by unfold zI at h;split at h<;>omega
theorem Uq (s:Sc) (bs:ON Bd):∀x,x<=bs.length->∀t∈zb s (bs.take x),∀(i:Nat) (b:Bd) (v:Int),bs[i]? = some b->t[i]? = some v->0<=v/\v<zY s b.sort
 |0,_,t,ht,i,b,v,_,hv=>by simp[zb]at ht;subst ht;simp at hv
 |x+1,hx,t,ht,i,b,v,hb,hv=>by
  obtain⟨c,hc,_⟩:=zt (l:=bs) (x:=x) (by omega);rw[rK s hc,E8]at ht;obtain⟨u,hu,ht⟩:=ht;unfold md at ht;obtain⟨n,hn,rfl⟩:=Mj.1 ht;have hul:=nu s bs x (by omega) u hu;rcases Nat.lt_trichotomy i x with h|h|h
  ·rw[ON.getElem?_append_left (by omega)]at hv;exact Uq s bs x (by omega) u hu i b v hb hv
  ·subst h;rw[ON.getElem?_append_right (by omega),hul]at hv;simp at hv;subst hv;rw[hc]at hb;cases hb;have:=Lp.1 hn;unfold zY;omega
  ·rw[My (by simp;omega)]at hv;cases hv
theorem Up {s:Sc}{bs:ON Bd}{t:ON Int}(ht:t∈zb s bs):∀y∈yR bs t,0<=y.at_/\y.at_<zY s y.sort:=by
 intro y hy;unfold yR at hy;obtain⟨p,hp,rfl⟩:=Mj.1 hy;obtain⟨i,hi,he⟩:=KS.1 hp;have hi1:i<bs.length:=by simp at hi;omega
 have hi2:i<t.length:=by simp at hi;omega
 rw[ON.getElem_zip]at he;have ht':t∈zb s (bs.take bs.length):=by rwa [La]
 have:=Uq s bs bs.length (MS _) t ht' i bs[i] t[i] (LR hi1) (LR hi2);rw[←he];exact this
theorem so {s:Sc}{bs:ON Bd}{t:ON Int}(ht:t∈zb s bs):t.length=bs.length:=by
 have ht':t∈zb s (bs.take bs.length):=by rwa [La]
 exact nu s bs bs.length (MS _) t ht'
theorem env_b:∀{bs:ON Bd}{t:ON Int},t.length=bs.length->(yR bs t).map ME=bs
 |[],_,_=>rfl
 |_::_,[],h=>by simp at h
 |b::r,v::q,h=>by have:=env_b (bs:=r) (t:=q) (by simpa using h);unfold yR at this ⊢;simp only[FK,Mf,this];rfl
theorem YB {bs:ON Bd}{t:ON Int}(h:t.length=bs.length):(yR bs t).length=bs.length:=by unfold yR;simp[h]
theorem TD {s:Sc}{w:ON Pl}{env:ON Ev}{x:Fm}(hs:s.Fits) (hx:x.formB=true) (h:Pre s w env (.mk 10 [] 0 [] [] [x])):Pre s w env x:=by
 have hw:=(Kt 10 [] 0 [] [] [x]).wt_eq;have hb:=xM hs (c:=2097152) (by decide) x;refine⟨hx,?_,?_,h.inE,h.wk,?_⟩
 ·have:=h.ty;rw[F8]at this;simp only[NU,NJ,Nt,oF]at this;rw[N2 (by decide),N2 (by decide)]at this;simp only[KD]at this;split at this
  ·assumption
  ·rename_i h2;simpa using h2
 ·have:=h.small;rw[JG]at this;have h1:=u6 this (by decide);simp only[NU,Nt,MC]at h1;rw[N2 (by decide)]at h1;have h2:=u6 (m:=1048575) (show zI 2097152 (0+x.broad 2097152 s)<=1048575 by omega) (by decide);omega
 ·have:=h.len;simp only[Kv,Nt]at hw;omega
theorem eY {s:Sc}{w:ON Pl}{env:ON Ev}{k:Int}{x y:Fm}(hs:s.Fits) (hk:k=11∨k=12∨k=13) (hx:x.formB=true) (hy:y.formB=true) (h:Pre s w env (.mk k [] 0 [] [] [x,y])):Pre s w env x/\Pre s w env y:=by
 have hw:=(Kt k [] 0 [] [] [x,y]).wt_eq;have hb:=xM hs (c:=2097152) (by decide) x;have hb2:=xM hs (c:=2097152) (by decide) y;have hty:x.ty (env.map ME)=0/\y.ty (env.map ME)=0:=by
  have:=h.ty;rw[F8]at this;simp only[NU,NJ,Nt,oF]at this;have h9:¬ k=9:=by omega
  have ha:¬ y7 k=true:=by rcases hk with rfl|rfl|rfl<;>decide
  rw[N2 h9,N2 ha]at this;simp only[KD]at this;by_cases h1:x.ty (env.map ME)=0
  ·rw[N2 (by simp[h1])]at this;by_cases h2:y.ty (env.map ME)=0
   ·exact⟨h1,h2⟩
   ·rw[Nf h2]at this;exact No this h2
  ·rw[Nf h1]at this;exact No this h1
 have hsm:x.broad 2097152 s<=1048576/\y.broad 2097152 s<=1048576:=by have:=h.small;rw[JG]at this;have h1:=u6 this (by decide);simp only[NU,Nt,MC]at h1;rw[N2 (by omega)]at h1;have h2:=u6 (m:=1048575) (show zI 2097152 (zI 2097152 (0+x.broad 2097152 s)+y.broad 2097152 s)<=1048575 by omega) (by decide);have h0:=y5 (c:=2097152) (x:=0+x.broad 2097152 s) (by decide) (by omega);have h3:=u6 (m:=1048575) (show zI 2097152 (0+x.broad 2097152 s)<=1048575 by omega) (by decide);omega
 have hl:=h.len;simp only[Kv,Nt]at hw;exact⟨⟨hx,hty.1,hsm.1,h.inE,h.wk,by omega⟩,⟨hy,hty.2,hsm.2,h.inE,h.wk,by omega⟩⟩
theorem Uo {c:Bool}{a b:En}(h:(if c=true then some a else none)=some b):b=a:=by cases c<;>simp_all
theorem W6 {s:Sc}{w:ON Pl}{env:ON Ev}{k n:Int}{bs:ON Bd}{x:Fm}(hs:s.Fits) (hk:14<=k) (hx:x.formB=true) (h:Pre s w env (.mk k [] n [] bs [x])):zV 2097152 s bs<=1048577/\∀t∈zb s bs,Pre s w (env++yR bs t) x:=by
 have hw:=(Kt k [] n [] bs [x]).wt_eq;have hb:=xM hs (c:=2097152) (by decide) x;have hm:=yd hs (c:=2097152) (by decide) bs;have key:∀Y:Int,0<=Y->1<=zI 2097152 (Y+1):=by intro Y hY;unfold zI;split<;>omega
 have hx1:1<=x.broad 2097152 s:=by
  rw[JG];apply key;have:=gG hs (c:=2097152) (by decide) x.l 0 (by decide) (by decide);have h2:=yd hs (c:=2097152) (by decide) x.bs;split
  ·exact(y5 (by decide) (JX this.1 h2.1)).1
  ·exact this.1
 have e1:MC 2097152 s [x] 0=x.broad 2097152 s:=by simp only[MC];unfold zI;split<;>omega
 have hsm:x.broad 2097152 s*zV 2097152 s bs<=1048575:=by have:=h.small;rw[JG,Nf (show(Kt k [] n [] bs [x]).kind>=14 from hk)]at this;have h1:=u6 this (by decide);simp only[Nt,NJ]at h1;rw[e1]at h1;exact u6 (c:=2097152) (by omega) (by decide)
 have hmany:zV 2097152 s bs<=1048577:=by have:=Int.mul_le_mul_of_nonneg_right hx1 hm.1;omega
 refine⟨hmany,λt ht=>?_⟩;have hpos:1<=zV 2097152 s bs:=by
  rcases IV hm.1 with h0|h0
  ·omega
  ·rw[jG h0.symm]at ht;cases ht
 have htl:=so ht;refine⟨hx,?_,?_,?_,h.wk,?_⟩
 ·have hty:=h.ty;have h9:¬ (Kt k [] n [] bs [x]).kind=9:=λh=>by have h:k=9:=h;omega
  have ha:¬ y7 (Kt k [] n [] bs [x]).kind=true:=by show ¬ y7 k=true;simp[y7];omega
  rw[F8,N2 h9,N2 ha,TJ]at hty;simp only[NJ,Nt]at hty;split at hty
  ·cases hty
  ·rename_i e' he;have he2:=Uo he;subst he2;rw[Lq,env_b htl];simp only[KD]at hty;by_cases h1:x.ty (env.map ME++bs)=0
   ·exact h1
   ·rw[Nf h1]at hty;exact No hty h1
 ·have:=HG hpos hb.1;omega
 ·intro y hy;rcases LG.1 hy with hy|hy
  ·exact h.inE y hy
  ·exact Up ht y hy
 ·have:=h.len;rw[Kb,YB htl];simp only[Kv,Nt,NJ]at hw;omega
theorem jF {f:Fm}(h:Shape f):(∃k:Int,(k=1∨k=2)/\f = .mk k [] 0 [] [] [])∨(3<=f.kind/\f.kind<=9)∨(∃x:Fm,x.formB=true/\f = .mk 10 [] 0 [] [] [x])∨(∃(k:Int) (x y:Fm),(k=11∨k=12∨k=13)/\x.formB=true/\y.formB=true/\f = .mk k [] 0 [] [] [x,y])∨(∃(k n:Int) (bs:ON Bd) (x:Fm),(14<=k/\k<=17)/\x.formB=true/\f = .mk k [] n [] bs [x]):=by
 cases h with
 |const k hk=>exact .inl ⟨k,hk,rfl⟩
 |atom k a b hk=>exact .inr (.inl (by show 3<=k/\k<=9;omega))
 |cmp sg a b=>exact .inr (.inl (by show(3:Int)<=9/\(9:Int)<=9;decide))
 |not x hx=>exact .inr (.inr (.inl ⟨x,hx,rfl⟩))
 |two k x y hk hx hy=>exact .inr (.inr (.inr (.inl ⟨k,x,y,hk,hx,hy,rfl⟩)))
 |quant k bs x hk hb h1 h6 hx=>exact .inr (.inr (.inr (.inr ⟨k,0,bs,x,by omega,hx,rfl⟩)))
 |count k n bs x hk h0 hn hb h1 h6 hx=>exact .inr (.inr (.inr (.inr ⟨k,n,bs,x,by omega,hx,rfl⟩)))
theorem Un {s:Sc}{w:ON Pl}{f:Fm}{env:ON Ev}(h:3<=f.kind/\f.kind<=9):f.sem s w env=Ut s w env f.kind f.name (vH f.ts 0) (vH f.ts 1):=by
 cases f with
 |mk k op n ts bs l =>
  have h:3<=k/\k<=9:=h;rw[Fm.sem,N2 (by omega),N2 (by omega),N2 (by omega),N2 (by omega),N2 (by omega),N2 (by omega),Nf (by omega)];rfl
theorem W7 {s:Sc}{w:ON Pl}{k n:Int}{bs:ON Bd}{x:Fm}{env:ON Ev}(h:14<=k):(Kt k [] n [] bs [x]).sem s w env=Zu k n ((zb s bs).countP λt=>Fm.semL s w [x] 0 (env++yR bs t)) (zb s bs).length:=by rw[Fm.sem,N2 (by omega),N2 (by omega),N2 (by omega),N2 (by omega),N2 (by omega),N2 (by omega),N2 (by omega)]
theorem pB {p q:Prop}{i1:Decidable p}{i2:Decidable q}(h:p↔q):[OD (@decide p i1)]=[OD (@decide q i2)]:=by rw[decide_eq_decide.2 h]
theorem yp {α:Type}{l:ON α}{i:Nat}{z:α}(h:l[i]? = some z):l.take (i+1)=l.take i++[z]:=by rw[Lb,h];rfl
section
variable {G:Nat->OK (ON D)}
end
structure In where
 rule:Int
 binds:ON Int
def In.d (x:In):D:= .agg [.int .i64 x.rule,.sl (x.binds.map intD),.int .i64 0,.int .i64 0,.int .i64 0,.sl []]
def eX (s:Sc) (w:ON Pl) (r:Ru) (i:Nat) (ts:ON (ON Int)):ON In:=(ts.filter λt=>!r.body.sem s w (yR r.each t)).map λt=>⟨i,t⟩
def x6 (s:Sc) (w:ON Pl):ON Ru->Nat->ON In
 |[],_=>[]
 |r::q,i=>eX s w r i (zb s r.each)++x6 s w q (i+1)
def eW (s:Sc) (w:ON Pl) (l:ON Ru) (i k:Nat):ON In :=x6 s w (l.take i) 0++(match l[i]? with|some r=>eX s w r i ((zb s r.each).take k)|none=>[])
def yQ (s:Sc) (w:ON Pl) (l:ON Ru):Int:=if ye s w≠0 then ye s w else if(wp l).2≠0 then(wp l).2 else if xf s l 0 0 then 2 else 0
def zQ (s:Sc) (w:ON Pl) (l:ON Ru):ON In:=if yQ s w l=0 then x6 s w l 0 else []
theorem rules_ok:∀(l:ON Ru) (seen:ON Nm) (i:Nat),(rulesT seen i l).2=0->∀r∈l,r.tyI=0
 |[],_,_,_,r,h=>by cases h
 |x::q,seen,i,h,r,hr=>by
  rw[rulesT]at h;by_cases h1:x.tyI=0
  ·rw[N2 (by simp[h1])]at h;by_cases h2:seen.contains x.name=true
   ·rw[Nf h2]at h;cases h
   ·rw[N2 h2]at h;rcases MU.1 hr with rfl|hr
    ·exact h1
    ·exact rules_ok q _ _ h r hr
  ·rw[Nf h1]at h;exact No h h1
theorem Sn {r:Ru}(h:r.tyI=0):r.body.formB=true/\r.body.ty r.each=0/\r.each.length<=6:=by
 unfold H5 at h;split at h
 ·cases h
 ·rename_i h1;split at h
  ·rename_i h2;exact No h h2
  ·rename_i h2;split at h
   ·refine⟨rk (by simpa using h2),h,?_⟩;simp at h1;exact h1.2.2.1
   ·cases h
def ma (s:Sc):ON Ru->Int
 |[]=>0
 |r::q=>zV 2097152 s r.each+ma s q
theorem eV {s:Sc}(hs:s.Fits):∀l,0<=ma s l
 |[]=>JT _
 |r::q=>by have:=yd hs (c:=2097152) (by decide) r.each;have:=eV hs q;rw[ma];omega
theorem gD {s:Sc}(hs:s.Fits):∀l x,ma s (l.take x)<=ma s l
 |[],x=>by simp
 |r::q,0=>by have:=eV hs (r::q);simpa[ma]using this
 |r::q,x+1=>by have:=gD hs q x;rw[Lj,ma,ma];omega
theorem jE {s:Sc}(hs:s.Fits):∀(l:ON Ru) (n b:Int),xf s l n b=false->0<=n->0<=b->n+ma s l<=4096/\b<=1048576/\∀r∈l,zV 2097152 s r.each<=4096/\zV 2097152 s r.each*r.body.broad 2097152 s<=1048576
 |[],n,b,h,hn,hb=>by simp[xf]at h;exact⟨by rw[ma];omega,h.2,λr hr=>by cases hr⟩
 |x::q,n,b,h,hn,hb=>by
  have h1:=yd hs (c:=2097152) (by decide) x.each;have h2:=xM hs (c:=2097152) (by decide) x.body;have h3:=JX h1.1 h2.1;rw[xf]at h;by_cases hg:zV 2097152 s x.each>4096
  ·rw[Nf hg]at h;cases h
  ·rw[N2 hg]at h;obtain⟨i1,i2,i3⟩:=jE hs q _ _ h (y5 (by decide) (by omega)).1 (y5 (by decide) (by omega)).1;have h4:=eV hs q;have h5:=u6 (m:=4096) (show zI 2097152 (n+zV 2097152 s x.each)<=4096 by omega) (by decide);have h6:=u6 i2 (by decide);have h7:zI 2097152 (n+zV 2097152 s x.each)=n+zV 2097152 s x.each:=by unfold zI;rw[N2 (by omega)]
   rw[h7]at i1;refine⟨by rw[ma];omega,by omega,λr hr=>?_⟩;rcases MU.1 hr with rfl|hr
   ·exact⟨by omega,by omega⟩
   ·exact i3 r hr
theorem bP {s:Sc}(hs:s.Fits) {bs:ON Bd}(h:zV 2097152 s bs<2097152):((zb s bs).length:Int)=zV 2097152 s bs:=by
 have hm:=yd hs (c:=2097152) (by decide) bs;rcases IV hm.1 with h0|h0
 ·have:=eZ hs (c:=2097152) (by decide) h0 h bs.length (MS _);rwa [La]at this
 ·rw[jG h0.symm,←h0];rfl
theorem bO (s:Sc) (w:ON Pl) (r:Ru) (i:Nat) (ts:ON (ON Int)):(eX s w r i ts).length<=ts.length:=by unfold eX;rw[Nv];exact ON.length_filter_le _ _
theorem pA {s:Sc}(hs:s.Fits) (w:ON Pl):∀(l:ON Ru) (i:Nat),(∀r∈l,zV 2097152 s r.each<=4096)->((x6 s w l i).length:Int)<=ma s l
 |[],_,_=>JT _
 |r::q,i,h=>by have h1:=pA hs w q (i+1) λr hr=>h r (FS _ hr);have h2:=bP hs (bs:=r.each) (by have:=h r IW;omega);have h3:=bO s w r i (zb s r.each);rw[x6,ma,Kb];omega
theorem lh (s:Sc) (w:ON Pl) (r:Ru):∀(l:ON Ru) (j:Nat),x6 s w (l++[r]) j=x6 s w l j++eX s w r (j+l.length) (zb s r.each)
 |[],j=>by simp[x6]
 |x::q,j=>by
  rw[ON.cons_append,x6,x6,lh s w r q (j+1),JM,MO];have:j+1+q.length=j+(q.length+1):=by omega
  rw[this]
theorem nt {s:Sc}{w:ON Pl}{l:ON Ru}{i:Nat}{r:Ru}(h:l[i]? = some r) (k:Nat):eW s w l i k=x6 s w (l.take i) 0++eX s w r i ((zb s r.each).take k):=by unfold eW;rw[h]
theorem W8 {s:Sc}{w:ON Pl}{l:ON Ru}{i:Nat}{r:Ru}(h:l[i]? = some r):eW s w l i 0=x6 s w (l.take i) 0:=by rw[nt h];simp[eX]
theorem W9 {s:Sc}{w:ON Pl}{l:ON Ru}{i k:Nat}{r:Ru}(h:l[i]? = some r) (hk:(zb s r.each).length<=k):eW s w l i k=x6 s w (l.take (i+1)) 0:=by
 have hi:i<l.length:=by rcases M0 i l.length with h1|h1;exact h1;rw[My h1]at h;cases h
 rw[nt h,MY hk,yp h,lh,ON.length_take,Nat.zero_add,Nat.min_eq_left (by omega)]
theorem Wz {s:Sc}{w:ON Pl}{l:ON Ru}{i k:Nat}{r:Ru}{t:ON Int}(h:l[i]? = some r) (ht:(zb s r.each)[k]? = some t):eW s w l i (k+1)=eW s w l i k++(if r.body.sem s w (yR r.each t)then []else [⟨i,t⟩]):=by rw[nt h,nt h,JM,yp ht];congr 1;unfold eX;rw[FH,Lq];congr 1;cases hb:r.body.sem s w (yR r.each t)<;>simp[hb]
theorem Um (l:ON In):xW (l.map In.d) 6=true:=by unfold xW;rw[ND];intro d hd;obtain⟨x,_,rfl⟩:=Mj.1 hd;rfl
section
variable {G:Nat->OK (ON D)}
end
open Go.Fo.In renaming d->MZ
def o0 (l:ON Ru) (i:Int):Ru:=(l[i.toNat]?).getD ⟨[],false,0,[],.mk 0 [] 0 [] [] []⟩
def vS (l:ON Ru) (b:ON In):Int:=(b.countP λx=>(o0 l x.rule).hard:Nat)
def xL (l:ON Ru) (b:ON In):Int:=(b.map λx=>if(o0 l x.rule).hard then 0 else(o0 l x.rule).weight).sum
theorem bN (s:Sc) (w:ON Pl):∀(l:ON Ru) (i:Nat),∀b∈x6 s w l i,∃k:Nat,b.rule=((i+k:Nat):Int)/\k<l.length
 |[],_,b,h=>by cases h
 |r::q,i,b,h=>by
  rw[x6,LG]at h;rcases h with h|h
  ·unfold eX at h;obtain⟨t,_,rfl⟩:=Mj.1 h;exact⟨0,rfl,by simp⟩
  ·obtain⟨k,h1,h2⟩:=bN s w q (i+1) b h;exact⟨k+1,by rw[h1];omega,by simpa using h2⟩
theorem lg {s:Sc}{w:ON Pl}{l:ON Ru}{b:In}(h:b∈zQ s w l):∃k:Nat,b.rule=(k:Int)/\k<l.length:=by
 unfold zQ at h;split at h
 ·obtain⟨k,h1,h2⟩:=bN s w l 0 b h;exact⟨k,by rw[h1];omega,h2⟩
 ·cases h
theorem Wy {s:Sc}{w:ON Pl}{l:ON Ru}(hs:s.Fits) (h:yQ s w l=0):(zQ s w l).length<=4096/\∀r∈l,r.tyI=0:=by
 have h0:=h;unfold yQ at h;by_cases h1:ye s w=0
 ·rw[N2 (by simp[h1])]at h;by_cases h2:(wp l).2=0
  ·rw[N2 (by simp[h2])]at h;cases h3:xf s l 0 0 with
   |true=>rw[h3]at h;cases h
   |false =>
    obtain⟨g1,-,g3⟩:=jE hs l 0 0 h3 (by decide) (by decide);have:=pA hs w l 0 λr hr=>(g3 r hr).1;refine⟨?_,rules_ok l [] 0 h2⟩;unfold zQ;rw[Nf h0];omega
  ·rw[Nf h2]at h;exact No h h2
 ·rw[Nf h1]at h;exact No h h1
theorem Sm {r:Ru}(h:r.tyI=0):0<=r.weight/\r.weight<=1000:=by
 unfold H5 at h;split at h
 ·cases h
 ·rename_i h1;simp at h1;have h2:=h1.2.1;unfold ji at h2;split at h2
  ·have:r.weight=0:=by simpa using h2
   omega
  ·simp at h2;omega
theorem YA (l:ON Ru):∀b:ON In,(∀x∈b,0<=(o0 l x.rule).weight/\(o0 l x.rule).weight<=1000)->0<=xL l b/\xL l b<=1000*b.length
 |[],_=>⟨JT _,JT _⟩
 |x::q,h=>by have h1:=YA l q λy hy=>h y (FS _ hy);have h2:=h x IW;have h3:xL l (x::q)=(if(o0 l x.rule).hard then 0 else(o0 l x.rule).weight)+xL l q:=rfl;rw[h3,MO];split<;>omega
theorem gC (l:ON Ru) (b:ON In) (x:In):xL l (b++[x])=xL l b+(if(o0 l x.rule).hard then 0 else(o0 l x.rule).weight):=by unfold xL;rw[Lq,ON.sum_append];simp
theorem gB (l:ON Ru) (b:ON In) (x:In):vS l (b++[x])=vS l b+(if(o0 l x.rule).hard then 1 else 0):=by unfold vS;rw[ON.countP_append,ON.countP_cons,ON.countP_nil];split<;>simp_all
section
variable {l:ON In}{x:In}{i:Nat}
theorem bM (h:l[i]? = some x):z1 (l.map MZ) i 0=some (.int .i64 x.rule):=by simp[z1,h,MZ,Mw]
theorem Ul (h:l[i]? = some x):z1 (l.map MZ) i (0+1)=some (.sl (x.binds.map intD)):=by simp[z1,h,MZ,Mw]
theorem Uk (h:l[i]? = some x):z1 (l.map MZ) i (0+1+1)=some (.int .i64 0):=by simp[z1,h,MZ,Mw]
theorem Uj (h:l[i]? = some x):z1 (l.map MZ) i (0+1+1+1)=some (.int .i64 0):=by simp[z1,h,MZ,Mw]
theorem Ui (h:l[i]? = some x):z1 (l.map MZ) i (0+1+1+1+1)=some (.int .i64 0):=by simp[z1,h,MZ,Mw]
theorem Uh (h:l[i]? = some x):z1 (l.map MZ) i (0+1+1+1+1+1)=some (.sl []):=by simp[z1,h,MZ,Mw]
theorem SR (h:l[i]? = some x):zk [.int .i64,.sl,.int .i64,.int .i64,.int .i64,.sl] (l.map MZ) i=x.d:=by simp only[zk,Ky,bM h,Ul h,Uk h,Uj h,Ui h,Uh h];rfl
theorem SQ (h:l[i]? = some x):(l.map MZ)[i]? = some x.d:=by rw[M6,h];rfl
end
section
variable {G:Nat->OK (ON D)}
end
structure Pn where
 sc:Sc
 rules:ON Ru
 frozen:ON Int
def Pn.d (p:Pn):D:= .agg [.sl (p.sc.slots.map Nx),.sl (p.sc.rooms.map N6),.sl (p.sc.people.map N9),.sl (p.sc.groups.map Ny),.sl (p.sc.lessons.map N8),.sl (p.rules.map Na),.sl (p.frozen.map intD)]
structure Pn.Fits (p:Pn):Prop where
 sc:p.sc.Fits
 rules:p.rules.length<1099511627776
 wts:rwts p.rules<1099511627776
 frozen:p.frozen.length<1099511627776
theorem yc (p:Pn):p.d = .agg [.sl (p.sc.slots.map Nx),.sl (p.sc.rooms.map N6),.sl (p.sc.people.map N9),.sl (p.sc.groups.map Ny),.sl (p.sc.lessons.map N8),.sl (p.rules.map Na),.sl (p.frozen.map intD)]:=rfl
def zH (p:Pn) (w:ON Pl):Bool×Int:=if yQ p.sc w p.rules≠0 then(false,0)else(vS p.rules (zQ p.sc w p.rules)==0,xL p.rules (zQ p.sc w p.rules))
def SP (a b:Pl):Bool:=a.slot==b.slot&&a.room==b.room
def xY (old w:ON Pl) (k:Int):Bool:=decide (0<=k)&&(decide (k<old.length)&&(decide (k<w.length)&& !SP (xE old k) (xE w k)))
def wU (p:Pn) (old w:ON Pl):Bool:=ye p.sc old != 0||p.frozen.all λk=>!xY old w k
def xX (p:Pn) (old w:ON Pl):Int:=if ye p.sc old≠0 then 0 else if old.length=w.length then(diffL 0 old w).length else 0
section
variable {G:Nat->OK (ON D)}
end
open Go.Fo.Pn renaming sc->NT
theorem jD {s:Sc}{m:Int}{w:ON Pl}(h:w∈(zB s m).1):w.length=s.lessons.length:=by
 unfold zB at h;split at h
 ·cases h
 split at h
 ·cases h
 split at h
 ·cases h
 ·exact bU _ _ w h
theorem jC {s:Sc}{m:Int}(hm:0<=m):((zB s m).1.length:Int)<=m:=by
 unfold zB;split
 ·exact hm
 split
 ·exact hm
 split
 ·exact hm
 ·rename_i h1 h2 h3;unfold tl at h3;simp only[L4,NR,not_or]at h3;show((xj s.pls s.lessons.length).length:Int)<=m;omega
def vG (p:Pn) (old v:ON Pl):Bool:=(zH p v).1&&wU p old v
def sK (p:Pn) (old:ON Pl):Bool:=(zB p.sc 4096).1.all λv=>!vG p old v
def yN (p:Pn) (old w v:ON Pl):Bool:=decide ((zH p v).2<(zH p w).2)||((zH p v).2==(zH p w).2&&decide (xX p old v<xX p old w))
def xc (p:Pn) (old w:ON Pl):Bool:=vG p old w&&(zB p.sc 4096).1.all λv=>!(vG p old v&&yN p old w v)
theorem mZ {a b:Bool}(h:(bif a then b else false)=true):a=true/\b=true:=by cases a<;>cases b<;>first|exact⟨rfl,rfl⟩|cases h
section
variable {G:Nat->OK (ON D)}
end
theorem bL {s:Sc}{a b:Int}(h0:0<=a) (hab:a<=b) (h:tl s a=false):tl s b=false:=by
 unfold tl at *;rw[LA]at *;obtain⟨h1,h2⟩:=h;refine⟨?_,decide_eq_false (by have:=of_decide_eq_false h2;omega)⟩;rw[ON.any_eq_false]at h1 ⊢;intro y hy;have h3:=h1 y hy;simp only[NR]at h3 ⊢;generalize s.slots.length*s.rooms.length=n at *;have h4:a.tdiv (n:Int)<=b.tdiv (n:Int):=by
  rw[HF h0,HF (by omega)];rcases Nat.eq_zero_or_pos n with rfl|hn
  ·simp
  ·exact Int.ediv_le_ediv (by omega) hab
 omega
theorem gA {s:Sc}{a b:Int}(h0:0<=a) (hab:a<=b) (h:(zB s a).2=0):zB s b=zB s a:=by
 unfold zB at *;by_cases h1:xg s≠0
 ·rw[Nf h1,Nf h1]
 have ha:¬a<0:=by omega
 have hb:¬b<0:=by omega
 rw[N2 h1,N2 ha]at h;rw[N2 h1,N2 hb,N2 h1,N2 ha];by_cases h2:tl s a=true
 ·rw[Nf h2]at h;cases h
 ·rw[N2 h2];rw[Iu]at h2;rw[N2 (by rw[bL h0 hab h2];decide)]
section
variable {p:Pn}{old:ON Pl}
def vv (p:Pn) (old:ON Pl) (l:ON (ON Pl)) (w:ON Pl):Bool:=vG p old w&&l.all λv=>!(vG p old v&&yN p old w v)
theorem bK (w:ON Pl):xc p old w=vv p old (zB p.sc 4096).1 w:=rfl
theorem least_is:∀l:ON (ON Pl),(∃w∈l,vG p old w=true)->∃w∈l,vv p old l w=true
 |[],h=>by obtain⟨_,h,_⟩:=h;cases h
 |a::r,h=>by
  by_cases hr:∃w∈r,vG p old w=true
  ·obtain⟨b,hb,hB⟩:=least_is r hr;unfold vv at hB;rw[NK,ND]at hB;by_cases hl:(vG p old a&&yN p old b a)=true
   ·refine⟨a,IW,?_⟩;rw[NK]at hl;unfold vv;rw[NK,ND];refine⟨hl.1,λv hv=>?_⟩;rcases MU.1 hv with rfl|hv
    ·unfold yN;simp
    ·have h1:=hB.2 v hv;have h2:=hl.2;unfold yN at h1 h2 ⊢;simp only[Lc,Jt,LA,L4,NK,NR,M2,beq_iff_eq,beq_eq_false_iff_ne]at h1 h2 ⊢;rcases h1 with h1|h1
     ·exact .inl h1
     ·right;omega
   ·refine⟨b,FS _ hb,?_⟩;unfold vv;rw[NK,ND];refine⟨hB.1,λv hv=>?_⟩;rcases MU.1 hv with rfl|hv
    ·rw[Iu]at hl;rw[hl];rfl
    ·exact hB.2 v hv
  ·obtain⟨w,hw,ho⟩:=h;rcases MU.1 hw with rfl|hw
   ·refine⟨w,IW,?_⟩;unfold vv;rw[NK,ND];refine⟨ho,λv hv=>?_⟩;rcases MU.1 hv with rfl|hv
    ·unfold yN;simp
    ·have:vG p old v=false:=by rw[←Iu];exact λh=>hr ⟨v,hv,h⟩
     rw[this];rfl
   ·exact No ⟨w,hw,ho⟩ hr
theorem Wx {l:ON (ON Pl)}{a b:ON Pl}(ha:a∈l) (hb:b∈l) (h1:vv p old l a=true) (h2:vv p old l b=true):(zH p a).2=(zH p b).2:=by unfold vv at h1 h2;rw[NK,ND]at h1 h2;have h3:=h1.2 b hb;have h4:=h2.2 a ha;rw[h2.1]at h3;rw[h1.1]at h4;unfold yN at h3 h4;simp only[JV,Lc,LA,Jt,M2,beq_eq_false_iff_ne]at h3 h4;omega
theorem Ww (l:ON (ON Pl)):(l.all λv=>!vG p old v)=(l.filter (vv p old l)).isEmpty:=by
 rw[MG,G5,ON.filter_eq_nil_iff,ND];constructor
 ·intro h w hw hb;unfold vv at hb;rw[NK]at hb;have:=h w hw;rw[hb.1]at this;cases this
 ·intro h v hv;cases ho:vG p old v with
  |false=>rfl
  |true =>
   obtain⟨w,hw,hb⟩:=least_is l ⟨v,hv,ho⟩;exact No hb (h w hw)
def nB (p:Pn) (old:ON Pl) (l:ON (ON Pl)):Int:=((l.filter (xc p old)).length:Int)
def cB (p:Pn) (old:ON Pl) (l:ON (ON Pl)):Int:=match (l.filter (xc p old)).getLast? with|some w=>(zH p w).2|none=>0
theorem X0 (l:ON (ON Pl)) (w:ON Pl):nB p old (l++[w])=if xc p old w then nB p old l+1 else nB p old l:=by
 unfold nB;rw[FH];by_cases h:xc p old w=true
 ·rw[Nf h,Dc h];simp
 ·rw[N2 h,Db h];simp
theorem X1 (l:ON (ON Pl)) (w:ON Pl):cB p old (l++[w])=if xc p old w then(zH p w).2 else cB p old l:=by
 unfold cB;rw[FH];by_cases h:xc p old w=true
 ·rw[Nf h,Dc h];simp
 ·rw[N2 h,Db h];simp
theorem RN {s:Sc}(hs:p.sc=s) (he:(zB s 300).2=0) {k:Nat}{w:ON Pl}(hw:(zB s 300).1[k]? = some w) (hb:xc p old w=true) (hn:0<nB p old ((zB s 300).1.take k)):(zH p w).2=cB p old ((zB s 300).1.take k):=by
 subst hs;have e:=gA (s:=p.sc) (a:=300) (b:=4096) (by decide) (by decide) he;unfold cB nB at *;cases hg:(((zB p.sc 300).1.take k).filter (xc p old)).getLast? with
 |none =>
  rw[ON.getLast?_eq_none_iff]at hg;rw[hg]at hn;cases hn
 |some v =>
  have hv:=ON.mem_of_getLast? hg;rw[ON.mem_filter]at hv;have h1:=Je hv.1;have h2:=hv.2;rw[bK,e]at h2 hb;exact Wx (MX hw) h1 hb h2
theorem Ug (he:(zB p.sc 300).2=0):sK p old=(nB p old (zB p.sc 300).1==0):=by
 have e:=gA (s:=p.sc) (a:=300) (b:=4096) (by decide) (by decide) he;have h:xc p old=vv p old (zB p.sc 300).1:=by funext w;rw[bK,e]
 unfold sK nB;rw[e,Ww,h];cases (zB p.sc 300).1.filter (vv p old (zB p.sc 300).1)with
 |nil=>rfl
 |cons a r =>
  simp only[ON.isEmpty_cons,MO];symm;rw[beq_eq_false_iff_ne];omega
end
def vu (l:ON Ru) (i:Nat):ON Bd:=match l[i]? with|some r=>r.each|none=>[]
section
variable {G:Nat->OK (ON D)}
def jB (a:ON Ru):Prop:=OM Na a=OM Na a
def bJ (a:Sc):Prop:=(OM Nx (Ni a)=OM Nx (Ni a)/\OM N6 (Nh a)=OM N6 (Nh a)/\OM N9 (Nd a)=OM N9 (Nd a)/\OM Ny (Nb a)=OM Ny (Nb a)/\OM N8 (Nj a)=OM N8 (Nj a)/\OG)/\OG
def Zt (a:Nat×Int) (b:ON Ru):Bool:=bif decide ((↑(N7 a):Int)<(↑(OJ (OM Na b)):Int))then decide ((↑(N7 a):Int)<20)else false
def ug (a:Nat×Int):Nat:=N1 (↑(N7 a):Int)
def lf (a:Nat×Int) (b:ON Ru):Prop:=(0:Int)<=(↑(N7 a):Int)/\(OM Na b)[ug a]? = some (zk [NC,Jy,NP .i64,NB,NP .i64,NC,NP .i64,NB,NB,NB] (OM Na b) (ug a))
def h17q9:Nat:=0+1+1+1+1
def Zs (a:ON Ru) (b:Nat×Int):ON D:=[NY [.int .i64 (NO (Nz (z1 (OM Na a) (ug b) h17q9) default)),.str (MJ (Nz (z1 (OM Na a) (ug b) (h17q9+1)) default)),.int .i64 (NO (Nz (z1 (OM Na a) (ug b) (h17q9+1+1)) default)),.sl (MT (Nz (z1 (OM Na a) (ug b) (h17q9+1+1+1)) default)),.sl (MT (Nz (z1 (OM Na a) (ug b) (h17q9+1+1+1+1)) default)),.sl (MT (Nz (z1 (OM Na a) (ug b) (h17q9+1+1+1+1+1)) default))]]
def f5 (a:ON Ru) (b:Nat×Int):ON D:=MT (Nz (z1 (OM Na a) (ug b) (0+1+1+1)) default)
def X2 (a:ON Ru) (b:Nat×Int):Int:=(↑(OJ (f5 a b)):Int)
def Uf (a:Bool) (b:ON Ru) (c:Nat×Int):Bool:=bif !a then true else decide (X2 b c>12)
def Zr (a:Bool) (b:ON Ru) (c:Nat×Int):Bool:=bif Uf a b c then true else decide ((↑(OJ (MJ (Nz (z1 (OM Na b) (ug c) 0) default))):Int)>100)
def X3 (a:Nat) (b:ON Ru) (c:Nat×Int):Prop:=a<=OJ (vu b (N7 c))
def Ue (a:ON Ru) (b:Nat×Int) (c:Nat):Bool:=decide ((↑(OJ (MJ (Nz (z1 (f5 a b) (N1 (c:Int)) 0) default))):Int)>100)
def h17q14 (a:Sc):D:=NY [.sl (OM Nx (Ni a)),.sl (OM N6 (Nh a)),.sl (OM N9 (Nd a)),.sl (OM Ny (Nb a)),.sl (OM N8 (Nj a))]
def Ud (a:Nat×Int) (b:Int) (c:Int):Int:=Nl .i64 (NV a+Nl .i64 (b*c))
theorem h17 (s:Sc) (l:ON Ru) (hs:s.Fits) (hl:l.length<1099511627776) (hw:rwts l<1099511627776):OB Tryz.prog G 17 [s.d,.sl (l.map Na)] (λrs=>∃b,rs=[.bool b]):=by
 have h42:=λf h=>Oe (G:=G) f h;have h43:=λbs h=>h43 (G:=G) s bs hs h;have h44:=λf h=>h44 (G:=G) s f hs h;have h45:=h45 (G:=G) s hs;have h46:=h46 (G:=G) s l hs hl hw;rw[zf]at *;refine zr (LL [(3,ui (α:=Nat×Int) Tryz.prog G (λi=>LL [(8,zT (α:=Nat) Tryz.prog G L0 0 (zz (zz (z6 Tryz.f17) 0) 0) [1,2,5,6] (λk=>k<=(vu l i.1).length) (λk=>(vu l i.1).length - k) (λk=>[(7,.d (.int .i64 k))]) (λH _=>H))]) 0 (zz (z6 Tryz.f17) 0) [1,2] (λx=>x.1<=l.length) (λx=>l.length - x.1) (λx=>[(5,.d (.int .i64 x.2)),(6,.d (.int .i64 x.1))]) (λH _=>H))]) Tryz.func17 ⟨_,true,rfl⟩ (zm (yI mixed (λ_=>zm zy))) ?_;apply @z7 _ (∃(x0:Nat×Int),N7 x0<=OJ l/\((jB l/\N5 0 0=N5 0 0/\0=NV x0/\(0:Int)=(↑(N7 x0):Int)/\OG)/\bJ s)/\∀(x:Nat×Int),N7 x<=OJ l->(Zt x l=true->lf x l/\OB Tryz.prog G 42 (Zs l x) λ(rs:ON D)=>∃(b:Bool),rs=[OD b]/\((!b)=false->lf x l)/\(Uf b l x=false->lf x l)/\(Zr b l x=true->∃(b:Bool),[OD false]=[OD b])/\(Zr b l x=false->∃(x0:Nat),X3 x0 l x/\((jB l/\N5 0 0=N5 0 0/\NV x=NV x/\(↑(N7 x):Int)=(↑(N7 x):Int)/\(0:Int)=(x0:Int)/\OG)/\bJ s)/\∀(x_1:Nat),X3 x_1 l x->lf x l/\(decide ((x_1:Int)<X2 l x)=true->lf x l/\((0:Int)<=(x_1:Int)/\(f5 l x)[N1 (x_1:Int)]? = some (zk [NC,NP .i64] (f5 l x) (N1 (x_1:Int))))/\(Ue l x x_1=true->∃(b:Bool),[OD false]=[OD b])/\(Ue l x x_1=false->∃(y:Nat),X3 y l x/\OJ (vu l (N7 x)) - y<OJ (vu l (N7 x)) - x_1/\(jB l/\N5 0 0=N5 0 0/\NV x=NV x/\(↑(N7 x):Int)=(↑(N7 x):Int)/\Nl .i64 ((x_1:Int)+1)=(y:Int)/\OG)/\bJ s))/\(decide ((x_1:Int)<X2 l x)=false->lf x l/\lf x l/\OB Tryz.prog G 43 [h17q14 s,.sl (f5 l x)] λ(rs:ON D)=>∃(n:Int),rs=[OH .i64 n]/\OB Tryz.prog G 44 (h17q14 s::Zs l x) λ(rs:ON D)=>∃(n_1:Int),rs=[OH .i64 n_1]/\∃(y:Nat×Int),N7 y<=OJ l/\OJ l - N7 y<OJ l - N7 x/\(jB l/\N5 0 0=N5 0 0/\(if 1048576<Ud x n n_1 then 1048576 else Ud x n n_1) = NV y/\Nl .i64 ((↑(N7 x):Int)+1)=(↑(N7 y):Int)/\OG)/\bJ s)))/\(Zt x l=false->OB Tryz.prog G 45 [h17q14 s] λ(rs:ON D)=>∃(b:Bool),rs=[OD b]/\OB Tryz.prog G 46 [h17q14 s,.sl (OM Na l)] λ(rs:ON D)=>∃(b_1:Bool),rs=[OD b_1]/\∃(b_2:Bool),[OD (bif bif b then decide ((↑(OJ (OM Na l)):Int)<=12)else false then bif decide (NV x<=20000)then true else b_1 else false)]=[OD b_2]))
 ·kernel_rfl
 delta jB bJ Zt lf ug Zs h17q9 Uf X2 f5 Zr X3 Ue h17q14 Ud;refine⟨(0,0),L6 _,⟨⟨rfl,rfl,rfl,rfl,trivial⟩,⟨rfl,rfl,rfl,rfl,rfl,trivial⟩,trivial⟩,λx hx=>⟨λhlt=>?_,λ_=>h45.mono λrs hrs=>?_⟩⟩
 ·have hlt:=M3 (mZ hlt).1;rw[Nv]at hlt;obtain⟨r,hr,hm⟩:=zt (l:=l) (x:=x.1) (by omega);have hrw:=rwts_mem hm;have hew:r.each.length<=ml r.each:=by unfold ml;omega
  have hrw2:r.wt=r.name.length+ml r.each+r.body.wt:=rfl;have ei (n:Int):NO (Nz (some (OH .i64 n)) default)=n:=rfl;have es (n:Nm):MJ (Nz (some (NZ n)) default)=n:=rfl;have el (l:ON D):MT (Nz (some (OE l)) default)=l:=rfl;have hv:0<=(x.1:Int)/\(OM Na l)[x.1]? = some r.d:=⟨by omega,by rw[M6,hr];rfl⟩;have hea:vu l x.1=r.each:=by unfold vu;rw[hr]
  have h42r:=h42 r.body (by omega);have h44r:=h44 r.body (by omega);rw[yK r.body]at h42r h44r;rw[M1,mj hr,oE hr,rZ hr,rY hr,rX hr,rW hr,rV hr,rU hr,rT hr,ei,ei,es,es,el,el,el,el,hea];refine⟨hv,h42r.mono λrs hrs=>?_⟩;obtain⟨b,rfl⟩:=hrs;refine⟨b,rfl,λ_=>hv,λ_=>hv,λ_=>⟨_,rfl⟩,λ_=>⟨0,L6 _,⟨⟨rfl,rfl,rfl,rfl,rfl,trivial⟩,⟨rfl,rfl,rfl,rfl,rfl,trivial⟩,trivial⟩,λk hk=>⟨hv,λhkl=>?_,λ_=>⟨hv,hv,(h43 r.each (by omega)).use ⟨_,rfl,h44r.use ⟨_,rfl,(x.1+1,_),by show x.1+1<=_;omega,by show _ - (x.1+1)<_;omega,⟨rfl,rfl,rfl,by rw[zu (by omega) (by omega)];rfl,trivial⟩,⟨rfl,rfl,rfl,rfl,rfl,trivial⟩,trivial⟩⟩⟩⟩⟩⟩;simp only[Nv,NR]at hkl;obtain⟨z,hz,hzm⟩:=zt (l:=r.each) (x:=k) (by omega);rw[M1,tt hz];exact⟨hv,⟨by omega,by rw[M6,hz];rfl⟩,λ_=>⟨_,rfl⟩,λ_=>⟨k+1,by omega,by omega,⟨rfl,rfl,rfl,rfl,by rw[zu (by omega) (by omega)];rfl,trivial⟩,⟨rfl,rfl,rfl,rfl,rfl,trivial⟩,trivial⟩⟩
 ·obtain⟨b,rfl⟩:=hrs;exact⟨b,rfl,h46.use ⟨_,rfl,_,rfl⟩⟩
theorem h6 (p:Pn) (hp:p.Fits):OB Tryz.prog G 6 [p.d] (λrs=>∃b,rs=[.bool b]):=by
 have h17:=h17 (G:=G) p.sc p.rules hp.sc hp.rules hp.wts;rw[zf]at *;rw[yc];refine zn Tryz.func6 ⟨_,true,rfl⟩ ?_;apply @z7 _ (OB Tryz.prog G 17 [NY [.sl (OM Nx (Ni (NT p))),.sl (OM N6 (Nh (NT p))),.sl (OM N9 (Nd (NT p))),.sl (OM Ny (Nb (NT p))),.sl (OM N8 (Nj (NT p)))],.sl (OM Na (Pn.rules p))] λ(rs:ON D)=>∃(b:Bool),rs=[OD b]/\∃(b_1:Bool),[OD (bif bif bif bif b then decide ((↑(OJ (OM N8 (Nj (NT p)))):Int)<=3)else false then decide ((↑(OJ (OM Nx (Ni (NT p)))):Int)<=3)else false then decide ((↑(OJ (OM N6 (Nh (NT p)))):Int)<=2)else false then decide ((↑(OJ (OM intD (Pn.frozen p))):Int)<=10)else false)]=[OD b_1])
 ·kernel_rfl
 refine h17.mono λrs hrs=>?_;obtain⟨b,rfl⟩:=hrs;exact⟨b,rfl,_,rfl⟩
end
def jA (a b:Int):Int:=if a<b then -1 else if a>b then 1 else 0
section
variable {G:Nat->OK (ON D)}
theorem RM (n m:Int):OB Tryz.prog G 58 [.int .i64 n,.int .i64 m] (· = [.bool (decide (0<=n)&&decide (n<=m))]):=by
 refine zn Tryz.func58 ⟨_,rfl⟩ ?_;apply @z7 _ ([OD (bif decide (n>=0)then decide (n<=m)else false)]=[OD (decide (0<=n)&&decide (n<=m))])
 ·kernel_rfl
 rw[zM]
theorem h122 (n:Int):OB Tryz.prog G 122 [.int .i64 n] (· = [.bool false]):=by
 refine zn Tryz.func122 ⟨_,rfl⟩ ?_;apply @z7 _ ([OD (n != n)]=[OD false])
 ·kernel_rfl
 simp
def mY (a:Int) (b:Int):ON D:=[OH .i64 (jA a b)]
def Zq (a:Int) (b:Int):Prop:=[OH .i64 0]=mY a b
theorem Px (a b:Int):OB Tryz.prog G 137 [.int .i64 a,.int .i64 b] (· = [.int .i64 (jA a b)]):=by
 have h122:=λn=>h122 (G:=G) n;refine zn Tryz.func137 ⟨_,rfl⟩ ?_;apply @z7 _ (OB Tryz.prog G 122 [OH .i64 a] λ(rs:ON D)=>∃(b_1:Bool),rs=[OD b_1]/\OB Tryz.prog G 122 [OH .i64 b] λ(rs:ON D)=>∃(b_2:Bool),rs=[OD b_2]/\(b_1=true->(b_2=true->Zq a b)/\(b_2=false->[OH .i64 (-1)]=mY a b))/\(b_1=false->(b_2=true->[OH .i64 1]=mY a b)/\(b_2=false->(decide (a<b)=true->[OH .i64 (-1)]=mY a b)/\(decide (a<b)=false->(decide (a>b)=true->[OH .i64 1]=mY a b)/\(decide (a>b)=false->Zq a b)))))
 ·kernel_rfl
 delta Zq mY;refine(h122 a).use ⟨_,rfl,(h122 b).use ⟨_,rfl,λh=>(by cases h),λ_=>⟨λh=>(by cases h),λ_=>⟨λh=>?_,λh=>⟨λh2=>?_,λh2=>?_⟩⟩⟩⟩⟩
 ·unfold jA;rw[Nf (M3 h)]
 ·unfold jA;rw[N2 (of_decide_eq_false h),Nf (M3 h2)]
 ·unfold jA;rw[N2 (of_decide_eq_false h),N2 (of_decide_eq_false h2)]
theorem SO (a b:Int):OB Tryz.prog G 133 [.int .i64 a,.int .i64 b] (· = [.int .i64 (zI 1048577 (Nl .i64 (a*b)))]):=by
 refine zn Tryz.func133 ⟨_,rfl⟩ ?_;apply @z7 _ ([OH .i64 (if 1048577<Nl .i64 (a*b)then 1048577 else Nl .i64 (a*b))]=[OH .i64 (zI 1048577 (Nl .i64 (a*b)))])
 ·kernel_rfl
 rfl
def bI (a:Nat) (b:ON Int) (c:Int):Prop:=a<=OJ b/\placesF (pi (NW a b)) (Lx a b) c=yY b c
def tT (a:ON Int) (b:Nat):Int:=NO (Nz (z1 (OM intD a) (N1 (b:Int)) 0) default)
def X4 (a:ON Int) (b:Nat) (c:Int):Bool:=bif decide (tT a b<=pi (NW b a))then true else decide (tT a b>=c)
theorem QN (l:ON Int) (n:Int) (hl:l.length<4611686018427387904):OB Tryz.prog G 60 [.sl (l.map intD),.int .i64 n] (· = [.bool (yY l n)]):=by
 refine zr (LL [(3,zT (α:=Nat) Tryz.prog G L0 0 (zz (z6 Tryz.f60) 0) [1,8,9] (λx=>x<=l.length/\placesF (pi (l.take x)) (l.drop x) n=yY l n) (λx=>l.length - x) (λx=>[(5,.d (.int .i64 (pi (l.take x)))),(10,.d (.int .i64 x))]) (λH _=>H))]) Tryz.func60 ⟨_,rfl⟩ (zm zy) ?_;apply @z7 _ (∃(x0:Nat),bI x0 l n/\((n=n/\(-1)=pi (NW x0 l)/\OM intD l=OM intD l/\(↑(OJ (OM intD l)):Int)=(↑(OJ (OM intD l)):Int)/\(0:Int)=(x0:Int)/\OG)/\OG)/\∀(x:Nat),bI x l n->(decide ((x:Int)<(↑(OJ (OM intD l)):Int))=true->((0:Int)<=(x:Int)/\(OM intD l)[N1 (x:Int)]? = some (OH .i64 (tT l x)))/\(X4 l x n=true->[OD false]=[OD (yY l n)])/\(X4 l x n=false->∃(y:Nat),bI y l n/\OJ l - y<OJ l - x/\(n=n/\tT l x=pi (NW y l)/\OM intD l=OM intD l/\(↑(OJ (OM intD l)):Int)=(↑(OJ (OM intD l)):Int)/\Nl .i64 ((x:Int)+1)=(y:Int)/\OG)/\OG))/\(decide ((x:Int)<(↑(OJ (OM intD l)):Int)) = false->[OD true]=[OD (yY l n)]))
 ·kernel_rfl
 delta bI tT X4;refine⟨0,⟨L6 _,rfl⟩,⟨⟨rfl,rfl,rfl,rfl,rfl,trivial⟩,trivial⟩,λx hx=>⟨λhlt=>?_,λhge=>?_⟩⟩
 ·simp only[Nv,NR]at hlt;obtain⟨z,hz,hm⟩:=zt (l:=l) (x:=x) (by omega);have e0:NO (Nz (some (OH .i64 z)) default)=z:=rfl;have hx2:=hx.2;rw[yZ hz,placesF]at hx2;rw[M1,xe hz,e0];refine⟨⟨by omega,uG hz⟩,λh=>?_,λh=>?_⟩
  ·rw[yi,L4,NR,NR]at h;have:(decide (pi (l.take x)<z)&&decide (z<n))=false:=by rw[Jt,M2,M2];omega
   rw[this]at hx2;rw[←hx2];rfl
  ·rw[yi,LA,M2,M2]at h;have:(decide (pi (l.take x)<z)&&decide (z<n))=true:=by rw[NK,NR,NR];omega
   rw[this,JV]at hx2;exact⟨x+1,⟨by omega,by rw[jP hz];exact hx2⟩,by omega,⟨rfl,(jP hz).symm,rfl,rfl,by rw[zu (by omega) (by omega)];rfl,trivial⟩,trivial⟩
 ·simp only[Nv,M2]at hge;have hx2:=hx.2;rw[Ls (by omega),placesF]at hx2;rw[←hx2]
def o4 (a:Sc):ON D:=OM N8 (Nj a)
def Zp (a:Int) (b:Sc):Bool:=bif decide (a<0)then true else decide (a>=(↑(OJ (o4 b)):Int))
def o5 (a:Sc) (b:Nat) (c:ON Int):Int:=gI (Nb a) (NW b c)
def Zo (a:Sc) (b:Int):ON D:=MT (Nz (z1 (o4 a) (N1 b) (0+1+1)) default)
def o6 (a:Sc):ON D:=OM Ny (Nb a)
def eU (a:Sc):Prop:=(OM Nx (Ni a)=OM Nx (Ni a)/\OM N6 (Nh a)=OM N6 (Nh a)/\OM N9 (Nd a)=OM N9 (Nd a)/\o6 a=o6 a/\o4 a=o4 a/\OG)/\OG
def Zn (a:ON Int) (b:Nat) (c:Sc):Bool:=bif decide (tT a b>=0)then decide (tT a b<(↑(OJ (o6 c)):Int))else false
def Zm (a:ON Int) (b:Nat) (c:Nat):Prop:=OM intD a=OM intD a/\(↑(OJ a):Int)=(↑(OJ a):Int)/\Nl .i64 ((b:Int)+1)=(c:Int)/\OG
theorem h170 (s:Sc) (k:Int) (hs:s.Fits):OB Tryz.prog G 170 [s.d,.int .i64 k] (· = [.int .i64 (jK s k)]):=by
 rw[zf];obtain⟨L,hL,hLf⟩:∃L:ON Int,(((s.lessons[k.toNat]?).map (·.groups)).getD [])=L/\L.length<1099511627776:=by
  cases hz:s.lessons[k.toNat]? with
  |none=>exact⟨[],rfl,by decide⟩
  |some z=>exact⟨z.groups,rfl,hs.grs z (MX hz)⟩
 refine zr (LL [(5,zT (α:=Nat) Tryz.prog G L0 0 (zz (z6 Tryz.f170) 0) [2] (λx=>x<=L.length) (λx=>L.length - x) (λx=>[(5,.d (.int .i64 (gI s.groups (L.take x)))),(22,.d (.sl (L.map intD))),(23,.d (.int .i64 L.length)),(24,.d (.int .i64 x))]) (λH _=>H))]) Tryz.func170 ⟨_,rfl⟩ (zm zy) ?_;apply @z7 _ ((Zp k s=true->[OH .i64 0]=[OH .i64 (jK s k)])/\(Zp k s=false->(0<=k/\(o4 s)[N1 k]? = some (zk [NC,NB,NB] (o4 s) (N1 k)))/\∃(x0:Nat),x0<=OJ L/\((N5 0 0=N5 0 0/\0=o5 s x0 L/\Zo s k=OM intD L/\(↑(OJ (Zo s k)):Int)=(↑(OJ L):Int)/\(0:Int)=(x0:Int)/\OG)/\eU s)/\∀(x:Nat),x<=OJ L->(decide ((x:Int)<(↑(OJ L):Int))=true->((0:Int)<=(x:Int)/\(OM intD L)[N1 (x:Int)]? = some (OH .i64 (tT L x)))/\(Zn L x s=true->(0<=tT L x/\(o6 s)[N1 (tT L x)]? = some (zk [NC,NP .i64] (o6 s) (N1 (tT L x))))/\∃(y:Nat),y<=OJ L/\OJ L - y<OJ L - x/\(N5 0 0=N5 0 0/\Nl .i64 (o5 s x L+NO (Nz (z1 (o6 s) (N1 (tT L x)) (0+1)) default))=o5 s y L/\Zm L x y)/\eU s)/\(Zn L x s=false->∃(y:Nat),y<=OJ L/\OJ L - y<OJ L - x/\(N5 0 0=N5 0 0/\o5 s x L=o5 s y L/\Zm L x y)/\eU s))/\(decide ((x:Int)<(↑(OJ L):Int))=false->[OH .i64 (o5 s x L)]=[OH .i64 (jK s k)])))
 ·kernel_rfl
 delta Zp o4 o5 Zo eU o6 tT bI X4 Zn Zm;refine⟨λh=>?_,λh=>?_⟩
 ·rw[Nv,yi,L4,NR,NR]at h;rw[jK,Nf h]
 ·rw[Nv,yi,LA,M2,M2]at h;obtain⟨z,hz,hm⟩:=zt (l:=s.lessons) (x:=k.toNat) (by omega);have hLz:z.groups=L:=by rw[hz]at hL;exact hL
  have hres:jK s k=gI s.groups L:=by rw[jK,N2 (by omega),hL]
  have el (l:ON D):MT (Nz (some (OE l)) default)=l:=rfl;rw[rP hz,bX hz,hres,el,hLz];refine⟨⟨by omega,rO hz⟩,0,by omega,⟨⟨rfl,rfl,rfl,by rw[Nv],rfl,trivial⟩,⟨rfl,rfl,rfl,rfl,rfl,trivial⟩,trivial⟩,λx hx=>⟨λhlt=>?_,λhge=>?_⟩⟩
  ·simp only[NR]at hlt;obtain⟨y,hy,hym⟩:=zt (l:=L) (x:=x) (by omega);have e0:NO (Nz (some (OH .i64 y)) default)=y:=rfl;have e1 (n:Int):NO (Nz (some (OH .i64 n)) default)=n:=rfl;rw[M1,xe hy,e0,Nv,zM];have hg:0<=(x:Int)/\(OM intD L)[x]? = some (OH .i64 y):=⟨by omega,uG hy⟩;have hstep:gI s.groups (L.take (x+1))=U6 s.groups (gI s.groups (L.take x)) y:=sq (U6 s.groups) 0 hy;refine⟨hg,λh2=>?_,λh2=>?_⟩
   ·rw[NK,NR,NR]at h2;obtain⟨g,hgz,hgm⟩:=zt (l:=s.groups) (x:=y.toNat) (by omega);rw[jT hgz,bY hgz];refine⟨⟨by omega,eq hgz⟩,x+1,by omega,by omega,⟨rfl,?_,rfl,rfl,by rw[zu (by omega) (by omega)];rfl,trivial⟩,⟨rfl,rfl,rfl,rfl,rfl,trivial⟩,trivial⟩;rw[hstep,U6,Nf (by omega),hgz];rfl
   ·rw[Jt,M2,M2]at h2;refine⟨x+1,by omega,by omega,⟨rfl,?_,rfl,rfl,by rw[zu (by omega) (by omega)];rfl,trivial⟩,⟨rfl,rfl,rfl,rfl,rfl,trivial⟩,trivial⟩;rw[hstep,U6,N2 (by omega)]
  ·simp only[M2]at hge;rw[MY (by omega)]
end
section
variable {G:Nat->OK (ON D)}
theorem RL (a:ON UInt8) (b c:ON D):OB Tryz.prog G 328 [.agg [.str a,.sl b,.sl c]] (· = [.sl b]):=by
 refine zn Tryz.func328 ⟨_,rfl⟩ ?_;apply @z7 _ ([OE b]=[OE b])
 ·kernel_rfl
 rfl
def vt (a:Int) (b:ON Le):Bool:=bif decide (a>=0)then decide (a<(↑(OJ (OM N8 b)):Int))else false
def vr (a:ON Le) (b:Int):D:=zk [NC,NB,NB] (OM N8 a) (N1 b)
theorem Uc (l:ON Le) (i n:Int) (hl:∀x∈l,x.who.length<4611686018427387904):OB Tryz.prog G 327 [.sl (l.map N8),.int .i64 i,.fn 328,.int .i64 n] (· = [.bool (ya l (·.who) i n)]):=by
 have h76:=λl n h=>Tj (G:=G) l n h;refine zn Tryz.func327 ⟨_,rfl⟩ ?_;apply @z7 _ ((vt i l=true->0<=i/\(OM N8 l)[N1 i]? = some (vr l i))/\OB Tryz.prog G 328 [vr l i] λ(rs:ON D)=>∃(l_1:ON D),rs=[OE l_1]/\OB Tryz.prog G 76 [OE l_1,.int .i64 n] λ(rs:ON D)=>∃(b:Bool),rs=[OD b]/\[OD (bif vt i l then b else false)]=[OD (ya l (λ(x:Le)=>Le.who x) i n)])
 ·kernel_rfl
 delta vt vr;cases hz:l[i.toNat]? with
 |some x =>
  rw[rP hz];refine⟨λhg=>⟨M3 (mZ hg).1,rO hz⟩,JC (RL _ _ _) ⟨_,rfl,(h76 x.who n (hl x (MX hz))).use ⟨_,rfl,?_⟩⟩⟩;unfold ya;rw[hz,zM,zM,Nv];rfl
 |none =>
  have hm:(l.map N8)[i.toNat]? = none:=by rw[M6,hz];rfl
  have hn:zk [.str,.sl,.sl] (l.map N8) i.toNat=NY [.str [],.sl [],.sl []]:=by simp only[zk,Ky,z1,hm];rfl
  rw[hn];refine⟨λhg=>?_,JC (RL [] [] []) ⟨_,rfl,(h76 [] n (by decide)).use ⟨_,rfl,?_⟩⟩⟩
  ·have h1:=M3 (mZ hg).1;have h2:=M3 (mZ hg).2;rw[Nv]at h2;rw[HD]at hz;omega
  ·unfold ya;rw[hz,zM,zM,Nv];rfl
theorem RK (a:ON UInt8) (b c:ON D):OB Tryz.prog G 329 [.agg [.str a,.sl b,.sl c]] (· = [.sl c]):=by
 refine zn Tryz.func329 ⟨_,rfl⟩ ?_;apply @z7 _ ([OE c]=[OE c])
 ·kernel_rfl
 rfl
theorem bH (l:ON Le) (i n:Int) (hl:∀x∈l,x.groups.length<4611686018427387904):OB Tryz.prog G 327 [.sl (l.map N8),.int .i64 i,.fn 329,.int .i64 n] (· = [.bool (ya l (·.groups) i n)]):=by
 have h76:=λl n h=>Tj (G:=G) l n h;refine zn Tryz.func327 ⟨_,rfl⟩ ?_;apply @z7 _ ((vt i l=true->0<=i/\(OM N8 l)[N1 i]? = some (vr l i))/\OB Tryz.prog G 329 [vr l i] λ(rs:ON D)=>∃(l_1:ON D),rs=[OE l_1]/\OB Tryz.prog G 76 [OE l_1,.int .i64 n] λ(rs:ON D)=>∃(b:Bool),rs=[OD b]/\[OD (bif vt i l then b else false)]=[OD (ya l (λ(x:Le)=>F0 x) i n)])
 ·kernel_rfl
 delta vt vr;cases hz:l[i.toNat]? with
 |some x =>
  rw[rP hz];refine⟨λhg=>⟨M3 (mZ hg).1,rO hz⟩,JC (RK _ _ _) ⟨_,rfl,(h76 x.groups n (hl x (MX hz))).use ⟨_,rfl,?_⟩⟩⟩;unfold ya;rw[hz,zM,zM,Nv];rfl
 |none =>
  have hm:(l.map N8)[i.toNat]? = none:=by rw[M6,hz];rfl
  have hn:zk [.str,.sl,.sl] (l.map N8) i.toNat=NY [.str [],.sl [],.sl []]:=by simp only[zk,Ky,z1,hm];rfl
  rw[hn];refine⟨λhg=>?_,JC (RK [] [] []) ⟨_,rfl,(h76 [] n (by decide)).use ⟨_,rfl,?_⟩⟩⟩
  ·have h1:=M3 (mZ hg).1;have h2:=M3 (mZ hg).2;rw[Nv]at h2;rw[HD]at hz;omega
  ·unfold ya;rw[hz,zM,zM,Nv];rfl
theorem RJ (a:ON UInt8) (b:ON D):OB Tryz.prog G 331 [.agg [.str a,.sl b]] (· = [.sl b]):=by
 refine zn Tryz.func331 ⟨_,rfl⟩ ?_;apply @z7 _ ([OE b]=[OE b])
 ·kernel_rfl
 rfl
def rJ (a:Int) (b:ON Pe):Bool:=bif decide (a>=0)then decide (a<(↑(OJ (OM N9 b)):Int))else false
def rI (a:ON Pe) (b:Int):D:=zk [NC,NB] (OM N9 a) (N1 b)
theorem Wv (l:ON Pe) (i n:Int) (hl:∀x∈l,x.away.length<4611686018427387904):OB Tryz.prog G 330 [.sl (l.map N9),.int .i64 i,.fn 331,.int .i64 n] (· = [.bool (ya l (·.away) i n)]):=by
 have h76:=λl n h=>Tj (G:=G) l n h;refine zn Tryz.func330 ⟨_,rfl⟩ ?_;apply @z7 _ ((rJ i l=true->0<=i/\(OM N9 l)[N1 i]? = some (rI l i))/\OB Tryz.prog G 331 [rI l i] λ(rs:ON D)=>∃(l_1:ON D),rs=[OE l_1]/\OB Tryz.prog G 76 [OE l_1,.int .i64 n] λ(rs:ON D)=>∃(b:Bool),rs=[OD b]/\[OD (bif rJ i l then b else false)]=[OD (ya l (λ(x:Pe)=>Pe.away x) i n)])
 ·kernel_rfl
 delta rJ rI;cases hz:l[i.toNat]? with
 |some x =>
  rw[mh hz];refine⟨λhg=>⟨M3 (mZ hg).1,jV hz⟩,JC (RJ _ _) ⟨_,rfl,(h76 x.away n (hl x (MX hz))).use ⟨_,rfl,?_⟩⟩⟩;unfold ya;rw[hz,zM,zM,Nv];rfl
 |none =>
  have hm:(l.map N9)[i.toNat]? = none:=by rw[M6,hz];rfl
  have hn:zk [.str,.sl] (l.map N9) i.toNat=NY [.str [],.sl []]:=by simp only[zk,Ky,z1,hm];rfl
  rw[hn];refine⟨λhg=>?_,JC (RJ [] []) ⟨_,rfl,(h76 [] n (by decide)).use ⟨_,rfl,?_⟩⟩⟩
  ·have h1:=M3 (mZ hg).1;have h2:=M3 (mZ hg).2;rw[Nv]at h2;rw[HD]at hz;omega
  ·unfold ya;rw[hz,zM,zM,Nv];rfl
theorem RI (a:ON UInt8) (m n:Int) (b:ON D):OB Tryz.prog G 333 [.agg [.str a,.int .i64 m,.int .i64 n,.sl b]] (· = [.sl b]):=by
 refine zn Tryz.func333 ⟨_,rfl⟩ ?_;apply @z7 _ ([OE b]=[OE b])
 ·kernel_rfl
 rfl
def rH (a:Int) (b:ON Rm):Bool:=bif decide (a>=0)then decide (a<(↑(OJ (OM N6 b)):Int))else false
def rG (a:ON Rm) (b:Int):D:=zk [NC,NP .i64,NP .i64,NB] (OM N6 a) (N1 b)
theorem Wu (l:ON Rm) (i n:Int) (hl:∀x∈l,x.shut.length<4611686018427387904):OB Tryz.prog G 332 [.sl (l.map N6),.int .i64 i,.fn 333,.int .i64 n] (· = [.bool (ya l (·.shut) i n)]):=by
 have h76:=λl n h=>Tj (G:=G) l n h;refine zn Tryz.func332 ⟨_,rfl⟩ ?_;apply @z7 _ ((rH i l=true->0<=i/\(OM N6 l)[N1 i]? = some (rG l i))/\OB Tryz.prog G 333 [rG l i] λ(rs:ON D)=>∃(l_1:ON D),rs=[OE l_1]/\OB Tryz.prog G 76 [OE l_1,.int .i64 n] λ(rs:ON D)=>∃(b:Bool),rs=[OD b]/\[OD (bif rH i l then b else false)]=[OD (ya l (λ(x:Rm)=>Rm.shut x) i n)])
 ·kernel_rfl
 delta rH rG;cases hz:l[i.toNat]? with
 |some x =>
  rw[rQ hz];refine⟨λhg=>⟨M3 (mZ hg).1,pH hz⟩,JC (RI _ _ _ _) ⟨_,rfl,(h76 x.shut n (hl x (MX hz))).use ⟨_,rfl,?_⟩⟩⟩;unfold ya;rw[hz,zM,zM,Nv];rfl
 |none =>
  have hm:(l.map N6)[i.toNat]? = none:=by rw[M6,hz];rfl
  have hn:zk [.str,.int .i64,.int .i64,.sl] (l.map N6) i.toNat=NY [.str [],.int .i64 0,.int .i64 0,.sl []]:=by simp only[zk,Ky,z1,hm];rfl
  rw[hn];refine⟨λhg=>?_,JC (RI [] 0 0 []) ⟨_,rfl,(h76 [] n (by decide)).use ⟨_,rfl,?_⟩⟩⟩
  ·have h1:=M3 (mZ hg).1;have h2:=M3 (mZ hg).2;rw[Nv]at h2;rw[HD]at hz;omega
  ·unfold ya;rw[hz,zM,zM,Nv];rfl
theorem Pw (s:Sc) (a b:Int) (hl:∀x∈s.lessons,x.who.length<4611686018427387904):OB Tryz.prog G 320 [s.d,.int .i64 a,.int .i64 b] (· = [.bool (ya s.lessons (·.who) b a)]):=by
 have hh:=Uc (G:=G) s.lessons b a hl;rw[zf];refine zn Tryz.func320 ⟨_,rfl⟩ ?_;apply @z7 _ (OB Tryz.prog G 327 [OE (OM N8 (Nj s)),.int .i64 b,.fn 328,.int .i64 a] λ(rs:ON D)=>∃(b_1:Bool),rs=[OD b_1]/\[OD b_1]=[OD (ya (Nj s) (λ(x:Le)=>Le.who x) b a)])
 ·kernel_rfl
 exact hh.use ⟨_,rfl,rfl⟩
theorem Pv (s:Sc) (a b:Int) (hl:∀x∈s.lessons,x.groups.length<4611686018427387904):OB Tryz.prog G 322 [s.d,.int .i64 a,.int .i64 b] (· = [.bool (ya s.lessons (·.groups) b a)]):=by
 have hh:=bH (G:=G) s.lessons b a hl;rw[zf];refine zn Tryz.func322 ⟨_,rfl⟩ ?_;apply @z7 _ (OB Tryz.prog G 327 [OE (OM N8 (Nj s)),.int .i64 b,.fn 329,.int .i64 a] λ(rs:ON D)=>∃(b_1:Bool),rs=[OD b_1]/\[OD b_1]=[OD (ya (Nj s) (λ(x:Le)=>F0 x) b a)])
 ·kernel_rfl
 exact hh.use ⟨_,rfl,rfl⟩
theorem Pu (s:Sc) (a b:Int) (hl:∀x∈s.people,x.away.length<4611686018427387904):OB Tryz.prog G 324 [s.d,.int .i64 a,.int .i64 b] (· = [.bool (ya s.people (·.away) a b)]):=by
 have hh:=Wv (G:=G) s.people a b hl;rw[zf];refine zn Tryz.func324 ⟨_,rfl⟩ ?_;apply @z7 _ (OB Tryz.prog G 330 [OE (OM N9 (Nd s)),.int .i64 a,.fn 331,.int .i64 b] λ(rs:ON D)=>∃(b_1:Bool),rs=[OD b_1]/\[OD b_1]=[OD (ya (Nd s) (λ(x:Pe)=>Pe.away x) a b)])
 ·kernel_rfl
 exact hh.use ⟨_,rfl,rfl⟩
theorem Pt (s:Sc) (a b:Int) (hl:∀x∈s.rooms,x.shut.length<4611686018427387904):OB Tryz.prog G 326 [s.d,.int .i64 a,.int .i64 b] (· = [.bool (ya s.rooms (·.shut) a b)]):=by
 have hh:=Wu (G:=G) s.rooms a b hl;rw[zf];refine zn Tryz.func326 ⟨_,rfl⟩ ?_;apply @z7 _ (OB Tryz.prog G 332 [OE (OM N6 (Nh s)),.int .i64 a,.fn 333,.int .i64 b] λ(rs:ON D)=>∃(b_1:Bool),rs=[OD b_1]/\[OD b_1]=[OD (ya (Nh s) (λ(x:Rm)=>Rm.shut x) a b)])
 ·kernel_rfl
 exact hh.use ⟨_,rfl,rfl⟩
end
def u7 (nm:Nm):ON Ev->Nat->Int
 |[],_=>-1
 |y::r,i=>if(y.name==nm)=true then(i:Int)else u7 nm r (i+1)
theorem eT (nm:Nm):∀(env:ON Ev) (i:Nat),yf (env.map ME) nm=true->∃k:Nat,u7 nm env i=((i+k:Nat):Int)/\env[k]? = some (uw env nm)
 |[],_,h=>by cases h
 |y::r,i,h=>by
  by_cases hy:(y.name==nm)=true
  ·refine⟨0,by rw[u7,Nf hy];rfl,?_⟩;have:uw (y::r) nm=y:=by unfold uw;rw[KP,hy];rfl
   rw[this];rfl
  ·have hy':(y.name==nm)=false:=by simpa using hy
   have hr:yf (r.map ME) nm=true:=by simp only[Mf,yf,K7,L4]at h;exact h.resolve_left hy
   obtain⟨k,h1,h2⟩:=eT nm r (i+1) hr;have:uw (y::r) nm=uw r nm:=by unfold uw;rw[KP,hy']
   refine⟨k+1,by rw[u7,N2 hy,h1];omega,?_⟩;rw[this];exact h2
def hT (t:Tm):ON Box:=[.cells 80 [.d (.int .i64 t.kind),.d (.str t.name),.d (.int .i64 t.n)]]
section
variable {G:Nat->OK (ON D)}
def tj (a:Tm):ON Box:=[Ns 80 [.d (.int .i64 (MA a)),.d (.str (MI a)),.d (.int .i64 (Ks a))]]
theorem Ps (t:Tm) (y:Ev):Nn Tryz.prog G 171 [.d y.d,.ptr 0 0] (hT t) (λrs H'=>rs=[.bool (y.name==t.name)]/\H'=hT t):=by
 unfold NM;refine zF Tryz.func171 rfl ⟨_,_,rfl,rfl⟩ ?_;apply @z7 _ ([OD (Fr y==MI t)]=[OD (Fr y==MI t)]/\tj t=tj t)
 ·kernel_rfl
 delta tj;exact⟨rfl,rfl⟩
def i7 (a:Nat) (b:ON Ev) (c:Tm):Prop:=a<=OJ b/\u7 (MI c) (Lx a b) a=u7 (MI c) b 0
def eS (a:ON Ev) (b:Nat):D:=zk [NC,NP .i64,NP .i64] (OM NM a) (N1 (b:Int))
def i8 (a:Int) (b:ON UInt8) (c:Int):ON Box:=[Ns 80 [.d (.int .i64 a),.d (.str b),.d (.int .i64 c)]]
theorem h168 (t:Tm) (env:ON Ev) (hl:env.length<4611686018427387904):Nn Tryz.prog G 168 [.d (.sl (env.map NM)),.clo 171 [] [.ptr 0 0]] (hT t) (λrs H'=>rs=[.int .i64 (u7 t.name env 0)]/\H'=hT t):=by
 refine zg (LL [(2,zT (α:=Nat) Tryz.prog G L0 1 (zz (z6 Tryz.f168) 0) [0,1,7] (λi=>i<=env.length/\u7 t.name (env.drop i) i=u7 t.name env 0) (λi=>env.length - i) (λi=>[(8,.d (.int .i64 i))]) (λH _=>H))]) Tryz.func168 rfl ⟨_,_,rfl,rfl⟩ (zm zy) ?_;apply @z7 _ (∃(x0:Nat),i7 x0 env t/\((OM NM env=OM NM env/\Ml 171 [] [N5 0 0]=Ml 171 [] [N5 0 0]/\(↑(OJ (OM NM env)):Int)=(↑(OJ (OM NM env)):Int)/\(0:Int)=(x0:Int)/\OG)/\(MA t=MA t/\MI t=MI t/\Ks t=Ks t/\OG)/\OG)/\∀(x:Nat),i7 x env t->(decide ((x:Int)<(↑(OJ (OM NM env)):Int))=true->((0:Int)<=(x:Int)/\(OM NM env)[N1 (x:Int)]? = some (eS env x))/\Nn Tryz.prog G 171 [OF (eS env x),.ptr 0 0] (tj t) λ(rs:ON D) (H':ON Box)=>∃(b:Bool),rs=[OD b]/\∃(n:Int)(s:ON UInt8)(n_1:Int),H'=i8 n s n_1/\(b=true->[OH .i64 (x:Int)]=[OH .i64 (u7 (MI t) env 0)]/\i8 n s n_1=tj t)/\(b=false->∃(y:Nat),i7 y env t/\OJ env - y<OJ env - x/\(OM NM env=OM NM env/\Ml 171 [] [N5 0 0]=Ml 171 [] [N5 0 0]/\(↑(OJ (OM NM env)):Int)=(↑(OJ (OM NM env)):Int)/\Nl .i64 ((x:Int)+1)=(y:Int)/\OG)/\(n=MA t/\s=MI t/\n_1=Ks t/\OG)/\OG))/\(decide ((x:Int)<(↑(OJ (OM NM env)):Int))=false->[OH .i64 (-1)]=[OH .i64 (u7 (MI t) env 0)]/\tj t=tj t))
 ·kernel_rfl
 delta i7 eS tj i8;refine⟨0,⟨L6 _,rfl⟩,⟨⟨rfl,rfl,rfl,rfl,trivial⟩,⟨rfl,rfl,rfl,trivial⟩,trivial⟩,λx hx=>⟨λhlt=>?_,λhge=>?_⟩⟩
 ·simp only[Nv,NR]at hlt;obtain⟨z,hz,hm⟩:=zt (l:=env) (x:=x) (by omega);have hx2:=hx.2;rw[yZ hz,u7]at hx2;rw[M1,mg hz];refine⟨⟨by omega,mf hz⟩,(Ps t z).mono ?_⟩;rintro rs H' ⟨rfl,rfl⟩;refine⟨_,rfl,_,_,_,rfl,λhb=>⟨?_,rfl⟩,λhb=>⟨x+1,⟨by omega,?_⟩,by omega,⟨rfl,rfl,rfl,by rw[zu (by omega) (by omega)];rfl,trivial⟩,⟨rfl,rfl,rfl,trivial⟩,trivial⟩⟩
  ·rw[Nf hb]at hx2;rw[hx2]
  ·rw[N2 (by simp[hb])]at hx2;exact hx2
 ·simp only[Nv,M2]at hge;have hx2:=hx.2;rw[Ls (by omega),u7]at hx2;exact⟨by rw[hx2],rfl⟩
theorem RH (t:Tm) (env:ON Ev) (hl:env.length<4611686018427387904) (hh:yf (env.map ME) t.name=true):OB Tryz.prog G 139 [.sl (env.map NM),t.d] (· = [.int .i64 (uw env t.name).at_]):=by
 have h168:=h168 (G:=G) t env hl;unfold Nc;refine zn Tryz.func139 ⟨_,rfl⟩ ?_;apply @z7 _ (Nn Tryz.prog G 168 [OF (.sl (OM NM env)),.clo 171 [] [N5 0 0]] (tj t) λ(rs:ON D) (H':ON Box)=>∃(n:Int),rs=[OH .i64 n]/\∃(n_1:Int)(s:ON UInt8)(n_2:Int),H'=i8 n_1 s n_2/\(0<=n/\(OM NM env)[N1 n]? = some (zk [NC,NP .i64,NP .i64] (OM NM env) (N1 n)))/\[OH .i64 (NO (Nz (z1 (OM NM env) (N1 n) (0+1+1)) default))]=[OH .i64 (Ev.at_ (uw env (MI t)))])
 ·kernel_rfl
 delta tj i8 i7 eS;obtain⟨k,hk,hz⟩:=eT t.name env 0 hh;refine h168.mono ?_;rintro rs H' ⟨rfl,rfl⟩;have hk':u7 t.name env 0=(k:Int):=by rw[hk];omega
 refine⟨_,rfl,_,_,_,rfl,?_⟩;rw[hk',M1,mg hz,jQ hz];exact⟨⟨by omega,mf hz⟩,rfl⟩
end
def lC (s:Sc) (w:ON Pl):D:= .agg [.sl (s.slots.map Nx),.sl (s.rooms.map N6),.sl (s.people.map N9),.sl (s.groups.map Ny),.sl (s.lessons.map N8),.sl (w.map Nr)]
def hX (s:Sc) (w:ON Pl) (t:Tm):ON Box:=[.cells 166 [.d (.sl (s.slots.map Nx)),.d (.sl (s.rooms.map N6)),.d (.sl (s.people.map N9)),.d (.sl (s.groups.map Ny)),.d (.sl (s.lessons.map N8)),.d (.sl (w.map Nr))],.cells 80 [.d (.int .i64 t.kind),.d (.str t.name),.d (.int .i64 t.n)]]
section
variable {G:Nat->OK (ON D)}
def ti (a:Sc) (b:ON Pl) (c:Tm):ON Box:=[Ns 166 [.d (.sl (OM Nx (Ni a))),.d (.sl (OM N6 (Nh a))),.d (.sl (OM N9 (Nd a))),.d (.sl (OM Ny (Nb a))),.d (.sl (OM N8 (Nj a))),.d (.sl (OM Nr b))],.cells 80 [.d (.int .i64 (MA c)),.d (.str (MI c)),.d (.int .i64 (Ks c))]]
theorem Pr (s:Sc) (w:ON Pl) (t:Tm) (y:Ev):Nn Tryz.prog G 169 [.d y.d,.ptr 1 0] (hX s w t) (λrs H'=>rs=[.bool (y.name==t.name)]/\H'=hX s w t):=by
 unfold NM;refine zF Tryz.func169 rfl ⟨_,_,rfl,rfl⟩ ?_;apply @z7 _ ([OD (Fr y==MI t)]=[OD (Fr y==MI t)]/\ti s w t=ti s w t)
 ·kernel_rfl
 delta ti;exact⟨rfl,rfl⟩
def ns (a:Nat) (b:ON Ev) (c:Tm):Prop:=a<=OJ b/\u7 (MI c) (Lx a b) a=u7 (MI c) b 0
def lB (a:ON Ev) (b:Nat):D:=zk [NC,NP .i64,NP .i64] (OM NM a) (N1 (b:Int))
def nr (a:ON D) (b:ON D) (c:ON D) (d:ON D) (e:ON D) (f:ON D) (g:Int) (h:ON UInt8) (i:Int):ON Box:=[Ns 166 [.d (.sl a),.d (.sl b),.d (.sl c),.d (.sl d),.d (.sl e),.d (.sl f)],.cells 80 [.d (.int .i64 g),.d (.str h),.d (.int .i64 i)]]
theorem RG (s:Sc) (w:ON Pl) (t:Tm) (env:ON Ev) (hl:env.length<4611686018427387904):Nn Tryz.prog G 168 [.d (.sl (env.map NM)),.clo 169 [] [.ptr 1 0]] (hX s w t) (λrs H'=>rs=[.int .i64 (u7 t.name env 0)]/\H'=hX s w t):=by
 refine zg (LL [(2,zT (α:=Nat) Tryz.prog G L0 2 (zz (z6 Tryz.f168) 0) [0,1,7] (λi=>i<=env.length/\u7 t.name (env.drop i) i=u7 t.name env 0) (λi=>env.length - i) (λi=>[(8,.d (.int .i64 i))]) (λH _=>H))]) Tryz.func168 rfl ⟨_,_,rfl,rfl⟩ (zm zy) ?_;apply @z7 _ (∃(x0:Nat),ns x0 env t/\((OM NM env=OM NM env/\Ml 169 [] [N5 1 0]=Ml 169 [] [N5 1 0]/\(↑(OJ (OM NM env)):Int)=(↑(OJ (OM NM env)):Int)/\(0:Int)=(x0:Int)/\OG)/\(OM Nx (Ni s)=OM Nx (Ni s)/\OM N6 (Nh s)=OM N6 (Nh s)/\OM N9 (Nd s)=OM N9 (Nd s)/\OM Ny (Nb s)=OM Ny (Nb s)/\OM N8 (Nj s)=OM N8 (Nj s)/\OM Nr w=OM Nr w/\OG)/\(MA t=MA t/\MI t=MI t/\Ks t=Ks t/\OG)/\OG)/\∀(x:Nat),ns x env t->(decide ((x:Int)<(↑(OJ (OM NM env)):Int))=true->((0:Int)<=(x:Int)/\(OM NM env)[N1 (x:Int)]? = some (lB env x))/\Nn Tryz.prog G 169 [OF (lB env x),.ptr 1 0] (ti s w t) λ(rs:ON D) (H':ON Box)=>∃(b:Bool),rs=[OD b]/\∃(l:ON D)(l_1:ON D)(l_2:ON D)(l_3:ON D)(l_4:ON D)(l_5:ON D)(n:Int)(s_1:ON UInt8)(n_1:Int),H'=nr l l_1 l_2 l_3 l_4 l_5 n s_1 n_1/\(b=true->[OH .i64 (x:Int)]=[OH .i64 (u7 (MI t) env 0)]/\nr l l_1 l_2 l_3 l_4 l_5 n s_1 n_1=ti s w t)/\(b=false->∃(y:Nat),ns y env t/\OJ env - y<OJ env - x/\(OM NM env=OM NM env/\Ml 169 [] [N5 1 0]=Ml 169 [] [N5 1 0]/\(↑(OJ (OM NM env)):Int)=(↑(OJ (OM NM env)):Int)/\Nl .i64 ((x:Int)+1)=(y:Int)/\OG)/\(l=OM Nx (Ni s)/\l_1=OM N6 (Nh s)/\l_2=OM N9 (Nd s)/\l_3=OM Ny (Nb s)/\l_4=OM N8 (Nj s)/\l_5=OM Nr w/\OG)/\(n=MA t/\s_1=MI t/\n_1=Ks t/\OG)/\OG))/\(decide ((x:Int)<(↑(OJ (OM NM env)):Int))=false->[OH .i64 (-1)]=[OH .i64 (u7 (MI t) env 0)]/\ti s w t=ti s w t))
 ·kernel_rfl
 delta ns lB ti nr;refine⟨0,⟨L6 _,rfl⟩,⟨⟨rfl,rfl,rfl,rfl,trivial⟩,⟨rfl,rfl,rfl,rfl,rfl,rfl,trivial⟩,⟨rfl,rfl,rfl,trivial⟩,trivial⟩,λx hx=>⟨λhlt=>?_,λhge=>?_⟩⟩
 ·simp only[Nv,NR]at hlt;obtain⟨z,hz,hm⟩:=zt (l:=env) (x:=x) (by omega);have hx2:=hx.2;rw[yZ hz,u7]at hx2;rw[M1,mg hz];refine⟨⟨by omega,mf hz⟩,(Pr s w t z).mono ?_⟩;rintro rs H' ⟨rfl,rfl⟩;refine⟨_,rfl,_,_,_,_,_,_,_,_,_,rfl,λhb=>⟨?_,rfl⟩,λhb=>⟨x+1,⟨by omega,?_⟩,by omega,⟨rfl,rfl,rfl,by rw[zu (by omega) (by omega)];rfl,trivial⟩,⟨rfl,rfl,rfl,rfl,rfl,rfl,trivial⟩,⟨rfl,rfl,rfl,trivial⟩,trivial⟩⟩
  ·rw[Nf hb]at hx2;rw[hx2]
  ·rw[N2 (by simp[hb])]at hx2;exact hx2
 ·simp only[Nv,M2]at hge;have hx2:=hx.2;rw[Ls (by omega),u7]at hx2;exact⟨by rw[hx2],rfl⟩
def sn (a:Sc) (b:ON Ev) (c:Tm):ON D:=[OH .i64 (nw a (uw b (MI c)) c)]
def h138q9:ON Sh:=[NC,NP .i64,NP .i64]
def vk (a:ON Ev) (b:Int):Int:=NO (Nz (z1 (OM NM a) (N1 b) (0+1+1)) default)
def Zl (a:ON Ev) (b:Int):Prop:=0<=vk a b
def eR (a:ON Ev) (b:Int) (c:ON D):Prop:=Zl a b/\c[N1 (vk a b)]? = some (zk h138q9 c (N1 (vk a b)))
def Zk (a:ON D) (b:ON Ev) (c:Int):Int:=NO (Nz (z1 a (N1 (vk b c)) (0+1)) default)
def Zj (a:ON D) (b:ON Ev) (c:Int) (d:Sc) (e:Tm):Prop:=[OH .i64 (Zk a b c)]=sn d b e
def Zi (a:ON D) (b:ON Ev) (c:Int):Int:=NO (Nz (z1 a (N1 (vk b c)) (0+1+1)) default)
def Zh (a:ON D) (b:ON Ev) (c:Int) (d:Sc) (e:Tm):Prop:=[OH .i64 (Zi a b c)]=sn d b e
def Zg (a:ON Ev) (b:Int) (c:ON D):Prop:=Zl a b/\c[N1 (vk a b)]? = some (zk [NC,NP .i64,NP .i64,NB] c (N1 (vk a b)))
def Zf (a:ON Ev) (b:Int):Bool:=NO (Nz (z1 (OM NM a) (N1 b) (0+1)) default)==2
theorem h138 (s:Sc) (w:ON Pl) (env:ON Ev) (t:Tm) (hs:s.Fits) (hl:env.length<4611686018427387904) (hh:t.kind≠1->yf (env.map ME) t.name=true) (hv:ValOk s (uw env t.name) t):OB Tryz.prog G 138 [lC s w,.sl (env.map NM),t.d] (· = [.int .i64 (nw s (uw env t.name) t)]):=by
 have h170:=λk=>h170 (G:=G) s k hs;have h168:=RG (G:=G) s w t env hl;rw[zf]at *;unfold Nc lC;refine zn Tryz.func138 ⟨_,rfl⟩ ?_;apply @z7 _ (((MA t==1)=true->[OH .i64 (Ks t)]=sn s env t)/\((MA t==1)=false->Nn Tryz.prog G 168 [OF (.sl (OM NM env)),.clo 169 [] [N5 1 0]] (ti s w t) λ(rs:ON D) (H':ON Box)=>∃(n:Int),rs=[OH .i64 n]/\∃(l:ON D)(l_1:ON D)(l_2:ON D)(l_3:ON D)(l_4:ON D)(l_5:ON D)(n_1:Int)(s_1:ON UInt8)(n_2:Int),H'=nr l l_1 l_2 l_3 l_4 l_5 n_1 s_1 n_2/\(0<=n/\(OM NM env)[N1 n]? = some (zk h138q9 (OM NM env) (N1 n)))/\((n_1==3)=true->eR env n l/\Zj l env n s t)/\((n_1==3)=false->((n_1==4)=true->eR env n l/\Zh l env n s t)/\((n_1==4)=false->((n_1==5)=true->Zg env n l_1/\Zj l_1 env n s t)/\((n_1==5)=false->((n_1==6)=true->Zg env n l_1/\Zh l_1 env n s t)/\((n_1 == 6)=false->((n_1==7)=true->OB Tryz.prog G 170 [NY [.sl l,.sl l_1,.sl l_2,.sl l_3,.sl l_4],.int .i64 (vk env n)] λ(rs:ON D)=>∃(n:Int),rs=[OH .i64 n]/\[OH .i64 n]=sn s env t)/\((n_1==7)=false->(Zf env n=true->eR env n l/\[OH .i64 (Nl .i64 (Nl .i64 (Zk l env n*12)+Zi l env n))]=sn s env t)/\(Zf env n=false->[OH .i64 (vk env n)]=sn s env t))))))))
 ·kernel_rfl
 delta sn ti nr ns lB h138q9 eR Zl vk Zj Zk Zh Zi Zg Zf;have b1:∀(k n:Int),(k==n)=true->k=n:=λk n h=>beq_iff_eq.1 h;have b2:∀(k n:Int),(k==n)=false->¬ k=n:=λk n h e=>by rw[e]at h;simp at h
 have ei (n:Int):NO (Nz (some (OH .i64 n)) default)=n:=rfl;refine⟨λh=>by rw[nw,Nf (b1 _ _ h)],λk1=>?_⟩;have k1:=b2 _ _ k1;obtain⟨k,hk,hz⟩:=eT t.name env 0 (hh k1);have hk':u7 t.name env 0=(k:Int):=by rw[hk];omega
 refine h168.mono ?_;rintro rs H' ⟨rfl,rfl⟩;refine⟨_,rfl,_,_,_,_,_,_,_,_,_,rfl,?_⟩;rw[hk',M1,mg hz,jQ hz,oD hz,ei,ei];generalize hx:uw env t.name=x at hz hv;have sl:Py s x.at_->∃z,s.slots[x.at_.toNat]? = some z/\mc s x.at_=z:=λh=>by obtain⟨h0,h1⟩:=h;obtain⟨z,hz,_⟩:=zt (l:=s.slots) (x:=x.at_.toNat) (by omega);exact⟨z,hz,by unfold mc;rw[hz];rfl⟩
 have rm:Ou s x.at_->∃z,s.rooms[x.at_.toNat]? = some z/\ed s x.at_=z:=λh=>by obtain⟨h0,h1⟩:=h;obtain⟨z,hz,_⟩:=zt (l:=s.rooms) (x:=x.at_.toNat) (by omega);exact⟨z,hz,by unfold ed;rw[hz];rfl⟩
 refine⟨⟨by omega,mf hz⟩,λh=>?_,λk3=>⟨λh=>?_,λk4=>⟨λh=>?_,λk5=>⟨λh=>?_,λk6=>⟨λh=>?_,λk7=>⟨λh=>?_,λk8=>?_⟩⟩⟩⟩⟩⟩
 ·have h:=b1 _ _ h;have hi:=hv.sl (.inl h);obtain⟨z,hz,e⟩:=sl hi;rw[pI hz,rS hz,ei,nw,N2 k1,Nf h,e];exact⟨⟨hi.1,mi hz⟩,rfl⟩
 ·have h:=b1 _ _ h;have hi:=hv.sl (.inr h);obtain⟨z,hz,e⟩:=sl hi;rw[pI hz,rR hz,ei,nw,N2 k1,N2 (b2 _ _ k3),Nf h,e];exact⟨⟨hi.1,mi hz⟩,rfl⟩
 ·have h:=b1 _ _ h;have hi:=hv.rm (.inl h);obtain⟨z,hz,e⟩:=rm hi;rw[rQ hz,bc hz,ei,nw,N2 k1,N2 (b2 _ _ k3),N2 (b2 _ _ k4),Nf h,e];exact⟨⟨hi.1,pH hz⟩,rfl⟩
 ·have h:=b1 _ _ h;have hi:=hv.rm (.inr h);obtain⟨z,hz,e⟩:=rm hi;rw[rQ hz,bZ hz,ei,nw,N2 k1,N2 (b2 _ _ k3),N2 (b2 _ _ k4),N2 (b2 _ _ k5),Nf h,e];exact⟨⟨hi.1,pH hz⟩,rfl⟩
 ·refine(h170 x.at_).use ⟨_,rfl,?_⟩;rw[nw,N2 k1,N2 (b2 _ _ k3),N2 (b2 _ _ k4),N2 (b2 _ _ k5),N2 (b2 _ _ k6),Nf (b1 _ _ h)]
 ·have h:=b1 _ _ h;have hi:=hv.sv k1 (b2 _ _ k3) (b2 _ _ k4) (b2 _ _ k5) (b2 _ _ k6) (b2 _ _ k7) h;obtain⟨z,hz,e⟩:=sl hi;rw[pI hz,rS hz,rR hz,ei,ei,nw,N2 k1,N2 (b2 _ _ k3),N2 (b2 _ _ k4),N2 (b2 _ _ k5),N2 (b2 _ _ k6),N2 (b2 _ _ k7),Nf h,e,Int.mul_comm];exact⟨⟨hi.1,mi hz⟩,rfl⟩
 ·rw[nw,N2 k1,N2 (b2 _ _ k3),N2 (b2 _ _ k4),N2 (b2 _ _ k5),N2 (b2 _ _ k6),N2 (b2 _ _ k7),N2 (b2 _ _ k8)]
end
section
variable {G:Nat->OK (ON D)}
end
section
variable {G:Nat->OK (ON D)}
def Ub (a:Int) (b:Sc):AV:=Ml 94 [] [Ma [.int .i64 a],.iptr [.sl (OM Nx (Ni b)),.sl (OM N6 (Nh b)),.sl (OM N9 (Nd b)),.sl (OM Ny (Nb b)),.sl (OM N8 (Nj b))]]
theorem h56 (s:Sc) (k:Int):PFnA Tryz.prog G 56 [s.d,.int .i64 k] (· = .clo 94 [] [.iptr [.int .i64 k],.iptr [.sl (s.slots.map Nx),.sl (s.rooms.map N6),.sl (s.people.map N9),.sl (s.groups.map Ny),.sl (s.lessons.map N8)]]):=by
 rw[zf];refine IH (fn:=Tryz.f56) (code:=z6 Tryz.f56) mixed L0 Tryz.func56 (by kernel_rfl) u3 ?_;apply @z7 _ (Ub k s=Ub k s)
 ·kernel_rfl
 delta Ub;rfl
end
section
variable {G:Nat->OK (ON D)}
def pc (s:Sc):ON AV:=[.d (.sl (s.slots.map Nx)),.d (.sl (s.rooms.map N6)),.d (.sl (s.people.map N9)),.d (.sl (s.groups.map Ny)),.d (.sl (s.lessons.map N8))]
def c158:Np:=unScope (zz (z6 Tryz.f158) 0)
def tm158:ON AV:=[.any,.any,.any,.any,.any,.ptr 1 0,.any,.any,.any,.any,.any,.any,.any,.any]
def hC (s:Sc) (n:Int):ON Box:=[.cells 28 (pc s),.cells 3 [.d (.int .i64 n)],.loop tm158 (ze c158) (zo c158) (zc c158) none .ready]
def SN (a:Sc) (b:Int):ON Box:=[Ns 28 [.d (.sl (OM Nx (Ni a))),.d (.sl (OM N6 (Nh a))),.d (.sl (OM N9 (Nd a))),.d (.sl (OM Ny (Nb a))),.d (.sl (OM N8 (Nj a)))],.cells 3 [.d (.int .i64 (Nl .i64 (b+1)))],.loop [OI,.any,.any,.any,.any,.ptr 1 0,.any,.any,.any,.any,.any,.any,.any,.any] (ze c158) (zo c158) (zc c158) none Mg]
theorem Wt (s:Sc) (i n:Int) (nm:Nm):Mo Tryz.prog G 2 [.d (.int .i64 i),.d (.str nm)] (hC s n) (λrs H'=>rs=[.bool true]/\H'=hC s (Nl .i64 (n+1))):=by
 refine Jl (tm:=tm158) (ps:=ze c158) (asn:=zo c158) (bd:=zc c158) mixed L0 rfl (by kernel_rfl) rfl rfl ⟨_,_,rfl,rfl⟩ (λ_=>nC (by kernel_rfl)) (λ_=>nC (by kernel_rfl)) ?_;apply @z7 _ ([OD true]=[OD true]/\SN s n=SN s n)
 ·kernel_rfl
 delta SN;exact⟨rfl,rfl⟩
theorem Ot (x:Le):OB Tryz.prog G 96 [x.d] (· = [.str x.name]):=by
 unfold N8;refine zn Tryz.func96 ⟨_,rfl⟩ ?_;apply @z7 _ ([NZ (HM x)]=[NZ (HM x)])
 ·kernel_rfl
 trivial
theorem Oq (x:Sl):OB Tryz.prog G 98 [x.d] (· = [.str x.name]):=by
 unfold Nx;refine zn Tryz.func98 ⟨_,rfl⟩ ?_;apply @z7 _ ([NZ (IB x)]=[NZ (IB x)])
 ·kernel_rfl
 trivial
theorem RF (x:Rm):OB Tryz.prog G 100 [x.d] (· = [.str x.name]):=by
 unfold N6;refine zn Tryz.func100 ⟨_,rfl⟩ ?_;apply @z7 _ ([NZ (HL x)]=[NZ (HL x)])
 ·kernel_rfl
 trivial
theorem RE (x:Pe):OB Tryz.prog G 102 [x.d] (· = [.str x.name]):=by
 unfold N9;refine zn Tryz.func102 ⟨_,rfl⟩ ?_;apply @z7 _ ([NZ (Fu x)]=[NZ (Fu x)])
 ·kernel_rfl
 trivial
theorem RD (x:Gr):OB Tryz.prog G 104 [x.d] (· = [.str x.name]):=by
 unfold Ny;refine zn Tryz.func104 ⟨_,rfl⟩ ?_;apply @z7 _ ([NZ (Ft x)]=[NZ (Ft x)])
 ·kernel_rfl
 trivial
def h95Cq8:ON AV:=[OI,.any,.any,.any,.any,.ptr 1 0,.any,.any,.any,.any,.any,.any,.any,.any]
def h95Cq6:Box:=M7 h95Cq8 (ze c158) (zo c158) (zc c158) none Mg
def vF (a:ON Le) (b:Nat):D:=zk [NC,NB,NB] (OM N8 a) (N1 (b:Int))
def h95Cq1 (a:Sc):Box:=Ns 28 [.d (.sl (OM Nx (Ni a))),.d (.sl (OM N6 (Nh a))),.d (.sl (OM N9 (Nd a))),.d (.sl (OM Ny (Nb a))),.d (.sl (OM N8 (Nj a)))]
def yP (a:Sc) (b:Int) (c:Nat):ON Box:=[h95Cq1 a,.cells 3 [.d (.int .i64 (b+(c:Int)))],h95Cq6]
def yH (a:ON D) (b:ON D) (c:ON D) (d:ON D) (e:ON D) (f:Int) (g:OK Np) (h:NQ):ON Box:=[Ns 28 [.d (.sl a),.d (.sl b),.d (.sl c),.d (.sl d),.d (.sl e)],.cells 3 [.d (.int .i64 f)],.loop h95Cq8 (ze c158) (zo c158) (zc c158) g h]
def vD (a:Sc) (b:Int) (c:ON Le):ON Box:=[h95Cq1 a,.cells 3 [.d (.int .i64 (b+(↑(OJ c):Int)))],h95Cq6]
def vC (a:ON D) (b:ON Box) (c:Sc) (d:Int) (e:ON Le) (f:Nat):Prop:= ∃(b_1:Bool),a=[OD b_1]/\∃(l:ON D)(l_1:ON D)(l_2:ON D)(l_3:ON D)(l_4:ON D)(n:Int)(pend:OK Np)(st:NQ),b=yH l l_1 l_2 l_3 l_4 n pend st/\((!b_1)=true->([]:ON D)=[]/\yH l l_1 l_2 l_3 l_4 n pend st=vD c d e)/\((!b_1)=false->∃(y:Nat),y<=OJ e/\OJ e - y<OJ e - f/\(OF (.fn 96)=OF (.fn 96)/\NE 2=NE 2/\OM N8 e=OM N8 e/\(↑(OJ (OM N8 e)):Int)=(↑(OJ (OM N8 e)):Int)/\Nl .i64 ((f:Int)+1)=(y:Int)/\OG)/\(l=OM Nx (Ni c)/\l_1=OM N6 (Nh c)/\l_2=OM N9 (Nd c)/\l_3=OM Ny (Nb c)/\l_4=OM N8 (Nj c)/\OG)/\(n=d+(y:Int)/\OG)/\M7 h95Cq8 (ze c158) (zo c158) (zc c158) pend st=h95Cq6/\OG)
theorem Pq (s:Sc) (l:ON Le) (n:Int) (h0:0<=n) (hl:l.length<1099511627776) (hk:n+l.length<4611686018427387904):Nn Tryz.prog G 95 [.d (.sl (l.map N8)),.d (.fn 96),.yld 2] (hC s n) (λrs H'=>rs=[]/\H'=hC s (n+l.length)):=by
 refine zg (LL [(1,zT (α:=Nat) Tryz.prog G L0 3 (zz (z6 Tryz.f95) 0) [1,2,9,10] (λi=>i<=l.length) (λi=>l.length - i) (λi=>[(11,.d (.int .i64 i))]) (λH i=>hC s (n+i)++H.drop 3))]) Tryz.func95 rfl ⟨[],_,rfl,rfl⟩ (zm zy) ?_;apply @z7 _ (∃(x0:Nat),x0<=OJ l/\((OF (.fn 96)=OF (.fn 96)/\NE 2=NE 2/\OM N8 l=OM N8 l/\(↑(OJ (OM N8 l)):Int)=(↑(OJ (OM N8 l)):Int)/\(0:Int)=(x0:Int)/\OG)/\(OM Nx (Ni s)=OM Nx (Ni s)/\OM N6 (Nh s)=OM N6 (Nh s)/\OM N9 (Nd s)=OM N9 (Nd s)/\OM Ny (Nb s)=OM Ny (Nb s)/\OM N8 (Nj s)=OM N8 (Nj s)/\OG)/\(n=n+(x0:Int)/\OG)/\h95Cq6=h95Cq6/\OG)/\∀(x:Nat),x<=OJ l->(decide ((x:Int)<(↑(OJ (OM N8 l)):Int))=true->((0:Int)<=(x:Int)/\(OM N8 l)[N1 (x:Int)]? = some (vF l x))/\((!false)=true->OB Tryz.prog G 96 [vF l x] λ(rs:ON D)=>∃(s_1:ON UInt8),rs=[NZ s_1]/\Mo Tryz.prog G 2 [OF (.int .i64 (x:Int)),.d (.str s_1)] (yP s n x) λ(rs:ON D) (H':ON Box)=>vC rs H' s n l x)/\((!false)=false->Mo Tryz.prog G 2 [OF (.int .i64 (x:Int)),.d (.str (Mm (Mn (Mi #[]))))] (yP s n x) λ(rs:ON D) (H':ON Box)=>vC rs H' s n l x))/\(decide ((x:Int)<(↑(OJ (OM N8 l)):Int))=false->([]:ON D)=[]/\yP s n x=vD s n l))
 ·kernel_rfl
 delta h95Cq6 h95Cq8 vF yP h95Cq1 vC yH vD;refine⟨0,by omega,⟨⟨rfl,rfl,rfl,rfl,rfl,trivial⟩,⟨rfl,rfl,rfl,rfl,rfl,trivial⟩,⟨by simp,trivial⟩,rfl,trivial⟩,λi hi=>⟨λhlt=>?_,λhge=>?_⟩⟩
 ·simp only[Nv,NR]at hlt;obtain⟨z,hz,hm⟩:=zt (l:=l) (x:=i) (by omega);rw[M1,rP hz];refine⟨⟨by omega,by simp[hz]⟩,λ_=>(Ot z).mono ?_,λh=>No h (by decide)⟩;rintro _ rfl;refine⟨_,rfl,(Wt s i (n+i) z.name).mono ?_⟩;rintro rs H' ⟨rfl,rfl⟩;exact⟨true,rfl,_,_,_,_,_,_,_,_,rfl,λh=>No h (by decide),λ_=>⟨i+1,by omega,by omega,⟨rfl,rfl,rfl,rfl,by rw[zu (by omega) (by omega)];simp,trivial⟩,⟨rfl,rfl,rfl,rfl,rfl,trivial⟩,⟨by rw[zu (by omega) (by omega)];simp;omega,trivial⟩,rfl,trivial⟩⟩
 ·simp only[Nv,M2]at hge;have e:i=l.length:=by omega
  rw[e];exact⟨rfl,rfl⟩
def Ze (a:ON Sl) (b:Nat):D:=zk [NC,NP .i64,NP .i64] (OM Nx a) (N1 (b:Int))
def Zd (a:Sc) (b:Int) (c:ON Sl):ON Box:=[h95Cq1 a,.cells 3 [.d (.int .i64 (b+(↑(OJ c):Int)))],h95Cq6]
def Zc (a:ON D) (b:ON Box) (c:Sc) (d:Int) (e:ON Sl) (f:Nat):Prop:= ∃(b_1:Bool),a=[OD b_1]/\∃(l:ON D)(l_1:ON D)(l_2:ON D)(l_3:ON D)(l_4:ON D)(n:Int)(pend:OK Np)(st:NQ),b=yH l l_1 l_2 l_3 l_4 n pend st/\((!b_1)=true->([]:ON D)=[]/\yH l l_1 l_2 l_3 l_4 n pend st=Zd c d e)/\((!b_1)=false->∃(y:Nat),y<=OJ e/\OJ e - y<OJ e - f/\(OF (.fn 98)=OF (.fn 98)/\NE 2=NE 2/\OM Nx e=OM Nx e/\(↑(OJ (OM Nx e)):Int)=(↑(OJ (OM Nx e)):Int)/\Nl .i64 ((f:Int)+1)=(y:Int)/\OG)/\(l=OM Nx (Ni c)/\l_1=OM N6 (Nh c)/\l_2=OM N9 (Nd c)/\l_3=OM Ny (Nb c)/\l_4=OM N8 (Nj c)/\OG)/\(n=d+(y:Int)/\OG)/\M7 h95Cq8 (ze c158) (zo c158) (zc c158) pend st=h95Cq6/\OG)
theorem Pp (s:Sc) (l:ON Sl) (n:Int) (h0:0<=n) (hl:l.length<1099511627776) (hk:n+l.length<4611686018427387904):Nn Tryz.prog G 97 [.d (.sl (l.map Nx)),.d (.fn 98),.yld 2] (hC s n) (λrs H'=>rs=[]/\H'=hC s (n+l.length)):=by
 refine zg (LL [(1,zT (α:=Nat) Tryz.prog G L0 3 (zz (z6 Tryz.f97) 0) [1,2,9,10] (λi=>i<=l.length) (λi=>l.length - i) (λi=>[(11,.d (.int .i64 i))]) (λH i=>hC s (n+i)++H.drop 3))]) Tryz.func97 rfl ⟨[],_,rfl,rfl⟩ (zm zy) ?_;apply @z7 _ (∃(x0:Nat),x0<=OJ l/\((OF (.fn 98)=OF (.fn 98)/\NE 2=NE 2/\OM Nx l=OM Nx l/\(↑(OJ (OM Nx l)):Int)=(↑(OJ (OM Nx l)):Int)/\(0:Int)=(x0:Int)/\OG)/\(OM Nx (Ni s)=OM Nx (Ni s)/\OM N6 (Nh s)=OM N6 (Nh s)/\OM N9 (Nd s)=OM N9 (Nd s)/\OM Ny (Nb s)=OM Ny (Nb s)/\OM N8 (Nj s)=OM N8 (Nj s)/\OG)/\(n=n+(x0:Int)/\OG)/\h95Cq6=h95Cq6/\OG)/\∀(x:Nat),x<=OJ l->(decide ((x:Int)<(↑(OJ (OM Nx l)):Int))=true->((0:Int)<=(x:Int)/\(OM Nx l)[N1 (x:Int)]? = some (Ze l x))/\((!false)=true->OB Tryz.prog G 98 [Ze l x] λ(rs:ON D)=>∃(s_1:ON UInt8),rs=[NZ s_1]/\Mo Tryz.prog G 2 [OF (.int .i64 (x:Int)),.d (.str s_1)] (yP s n x) λ(rs:ON D) (H':ON Box)=>Zc rs H' s n l x)/\((!false)=false->Mo Tryz.prog G 2 [OF (.int .i64 (x:Int)),.d (.str (Mm (Mn (Mi #[]))))] (yP s n x) λ(rs:ON D) (H':ON Box)=>Zc rs H' s n l x))/\(decide ((x:Int)<(↑(OJ (OM Nx l)):Int))=false->([]:ON D)=[]/\yP s n x=Zd s n l))
 ·kernel_rfl
 delta h95Cq6 h95Cq8 vF yP h95Cq1 vC yH vD Ze Zc Zd;refine⟨0,by omega,⟨⟨rfl,rfl,rfl,rfl,rfl,trivial⟩,⟨rfl,rfl,rfl,rfl,rfl,trivial⟩,⟨by simp,trivial⟩,rfl,trivial⟩,λi hi=>⟨λhlt=>?_,λhge=>?_⟩⟩
 ·simp only[Nv,NR]at hlt;obtain⟨z,hz,hm⟩:=zt (l:=l) (x:=i) (by omega);rw[M1,pI hz];refine⟨⟨by omega,by simp[hz]⟩,λ_=>(Oq z).mono ?_,λh=>No h (by decide)⟩;rintro _ rfl;refine⟨_,rfl,(Wt s i (n+i) z.name).mono ?_⟩;rintro rs H' ⟨rfl,rfl⟩;exact⟨true,rfl,_,_,_,_,_,_,_,_,rfl,λh=>No h (by decide),λ_=>⟨i+1,by omega,by omega,⟨rfl,rfl,rfl,rfl,by rw[zu (by omega) (by omega)];simp,trivial⟩,⟨rfl,rfl,rfl,rfl,rfl,trivial⟩,⟨by rw[zu (by omega) (by omega)];simp;omega,trivial⟩,rfl,trivial⟩⟩
 ·simp only[Nv,M2]at hge;have e:i=l.length:=by omega
  rw[e];exact⟨rfl,rfl⟩
def Zb (a:ON Rm) (b:Nat):D:=zk [NC,NP .i64,NP .i64,NB] (OM N6 a) (N1 (b:Int))
def Za (a:Sc) (b:Int) (c:ON Rm):ON Box:=[h95Cq1 a,.cells 3 [.d (.int .i64 (b+(↑(OJ c):Int)))],h95Cq6]
def ZZ (a:ON D) (b:ON Box) (c:Sc) (d:Int) (e:ON Rm) (f:Nat):Prop:= ∃(b_1:Bool),a=[OD b_1]/\∃(l:ON D)(l_1:ON D)(l_2:ON D)(l_3:ON D)(l_4:ON D)(n:Int)(pend:OK Np)(st:NQ),b=yH l l_1 l_2 l_3 l_4 n pend st/\((!b_1)=true->([]:ON D)=[]/\yH l l_1 l_2 l_3 l_4 n pend st=Za c d e)/\((!b_1)=false->∃(y:Nat),y<=OJ e/\OJ e - y<OJ e - f/\(OF (.fn 100)=OF (.fn 100)/\NE 2=NE 2/\OM N6 e=OM N6 e/\(↑(OJ (OM N6 e)):Int)=(↑(OJ (OM N6 e)):Int)/\Nl .i64 ((f:Int)+1)=(y:Int)/\OG)/\(l=OM Nx (Ni c)/\l_1=OM N6 (Nh c)/\l_2=OM N9 (Nd c)/\l_3=OM Ny (Nb c)/\l_4 = OM N8 (Nj c)/\OG)/\(n=d+(y:Int)/\OG)/\M7 h95Cq8 (ze c158) (zo c158) (zc c158) pend st=h95Cq6/\OG)
theorem Po (s:Sc) (l:ON Rm) (n:Int) (h0:0<=n) (hl:l.length<1099511627776) (hk:n+l.length<4611686018427387904):Nn Tryz.prog G 99 [.d (.sl (l.map N6)),.d (.fn 100),.yld 2] (hC s n) (λrs H'=>rs=[]/\H'=hC s (n+l.length)):=by
 refine zg (LL [(1,zT (α:=Nat) Tryz.prog G L0 3 (zz (z6 Tryz.f99) 0) [1,2,9,10] (λi=>i<=l.length) (λi=>l.length - i) (λi=>[(11,.d (.int .i64 i))]) (λH i=>hC s (n+i)++H.drop 3))]) Tryz.func99 rfl ⟨[],_,rfl,rfl⟩ (zm zy) ?_;apply @z7 _ (∃(x0:Nat),x0<=OJ l/\((OF (.fn 100)=OF (.fn 100)/\NE 2=NE 2/\OM N6 l=OM N6 l/\(↑(OJ (OM N6 l)):Int)=(↑(OJ (OM N6 l)):Int)/\(0:Int)=(x0:Int)/\OG)/\(OM Nx (Ni s)=OM Nx (Ni s)/\OM N6 (Nh s)=OM N6 (Nh s)/\OM N9 (Nd s)=OM N9 (Nd s)/\OM Ny (Nb s)=OM Ny (Nb s)/\OM N8 (Nj s)=OM N8 (Nj s)/\OG)/\(n=n+(x0:Int)/\OG)/\h95Cq6=h95Cq6/\OG)/\∀(x:Nat),x<=OJ l->(decide ((x:Int)<(↑(OJ (OM N6 l)):Int))=true->((0:Int)<=(x:Int)/\(OM N6 l)[N1 (x:Int)]? = some (Zb l x))/\((!false)=true->OB Tryz.prog G 100 [Zb l x] λ(rs:ON D)=>∃(s_1:ON UInt8),rs=[NZ s_1]/\Mo Tryz.prog G 2 [OF (.int .i64 (x:Int)),.d (.str s_1)] (yP s n x) λ(rs:ON D) (H':ON Box)=>ZZ rs H' s n l x)/\((!false)=false->Mo Tryz.prog G 2 [OF (.int .i64 (x:Int)),.d (.str (Mm (Mn (Mi #[]))))] (yP s n x) λ(rs:ON D) (H':ON Box)=>ZZ rs H' s n l x))/\(decide ((x:Int)<(↑(OJ (OM N6 l)):Int))=false->([]:ON D)=[]/\yP s n x=Za s n l))
 ·kernel_rfl
 delta h95Cq6 h95Cq8 vF yP h95Cq1 vC yH vD Zb ZZ Za;refine⟨0,by omega,⟨⟨rfl,rfl,rfl,rfl,rfl,trivial⟩,⟨rfl,rfl,rfl,rfl,rfl,trivial⟩,⟨by simp,trivial⟩,rfl,trivial⟩,λi hi=>⟨λhlt=>?_,λhge=>?_⟩⟩
 ·simp only[Nv,NR]at hlt;obtain⟨z,hz,hm⟩:=zt (l:=l) (x:=i) (by omega);rw[M1,rQ hz];refine⟨⟨by omega,by simp[hz]⟩,λ_=>(RF z).mono ?_,λh=>No h (by decide)⟩;rintro _ rfl;refine⟨_,rfl,(Wt s i (n+i) z.name).mono ?_⟩;rintro rs H' ⟨rfl,rfl⟩;exact⟨true,rfl,_,_,_,_,_,_,_,_,rfl,λh=>No h (by decide),λ_=>⟨i+1,by omega,by omega,⟨rfl,rfl,rfl,rfl,by rw[zu (by omega) (by omega)];simp,trivial⟩,⟨rfl,rfl,rfl,rfl,rfl,trivial⟩,⟨by rw[zu (by omega) (by omega)];simp;omega,trivial⟩,rfl,trivial⟩⟩
 ·simp only[Nv,M2]at hge;have e:i=l.length:=by omega
  rw[e];exact⟨rfl,rfl⟩
def eQ (a:ON Pe) (b:Nat):D:=zk [NC,NB] (OM N9 a) (N1 (b:Int))
def eP (a:Sc) (b:Int) (c:ON Pe):ON Box:=[h95Cq1 a,.cells 3 [.d (.int .i64 (b+(↑(OJ c):Int)))],h95Cq6]
def eO (a:ON D) (b:ON Box) (c:Sc) (d:Int) (e:ON Pe) (f:Nat):Prop:= ∃(b_1:Bool),a=[OD b_1]/\∃(l:ON D)(l_1:ON D)(l_2:ON D)(l_3:ON D)(l_4:ON D)(n:Int)(pend:OK Np)(st:NQ),b=yH l l_1 l_2 l_3 l_4 n pend st/\((!b_1)=true->([]:ON D)=[]/\yH l l_1 l_2 l_3 l_4 n pend st=eP c d e)/\((!b_1)=false->∃(y:Nat),y<=OJ e/\OJ e - y<OJ e - f/\(OF (.fn 102)=OF (.fn 102)/\NE 2=NE 2/\OM N9 e=OM N9 e/\(↑(OJ (OM N9 e)):Int)=(↑(OJ (OM N9 e)):Int)/\Nl .i64 ((f:Int)+1)=(y:Int)/\OG)/\(l=OM Nx (Ni c)/\l_1=OM N6 (Nh c)/\l_2=OM N9 (Nd c)/\l_3=OM Ny (Nb c)/\l_4 = OM N8 (Nj c)/\OG)/\(n=d+(y:Int)/\OG)/\M7 h95Cq8 (ze c158) (zo c158) (zc c158) pend st=h95Cq6/\OG)
theorem RC (s:Sc) (l:ON Pe) (n:Int) (h0:0<=n) (hl:l.length<1099511627776) (hk:n+l.length<4611686018427387904):Nn Tryz.prog G 101 [.d (.sl (l.map N9)),.d (.fn 102),.yld 2] (hC s n) (λrs H'=>rs=[]/\H'=hC s (n+l.length)):=by
 refine zg (LL [(1,zT (α:=Nat) Tryz.prog G L0 3 (zz (z6 Tryz.f101) 0) [1,2,9,10] (λi=>i<=l.length) (λi=>l.length - i) (λi=>[(11,.d (.int .i64 i))]) (λH i=>hC s (n+i)++H.drop 3))]) Tryz.func101 rfl ⟨[],_,rfl,rfl⟩ (zm zy) ?_;apply @z7 _ (∃(x0:Nat),x0<=OJ l/\((OF (.fn 102)=OF (.fn 102)/\NE 2=NE 2/\OM N9 l=OM N9 l/\(↑(OJ (OM N9 l)):Int)=(↑(OJ (OM N9 l)):Int)/\(0:Int)=(x0:Int)/\OG)/\(OM Nx (Ni s)=OM Nx (Ni s)/\OM N6 (Nh s)=OM N6 (Nh s)/\OM N9 (Nd s)=OM N9 (Nd s)/\OM Ny (Nb s)=OM Ny (Nb s)/\OM N8 (Nj s)=OM N8 (Nj s)/\OG)/\(n=n+(x0:Int)/\OG)/\h95Cq6=h95Cq6/\OG)/\∀(x:Nat),x<=OJ l->(decide ((x:Int)<(↑(OJ (OM N9 l)):Int))=true->((0:Int)<=(x:Int)/\(OM N9 l)[N1 (x:Int)]? = some (eQ l x))/\((!false)=true->OB Tryz.prog G 102 [eQ l x] λ(rs:ON D)=>∃(s_1: ON UInt8),rs=[NZ s_1]/\Mo Tryz.prog G 2 [OF (.int .i64 (x:Int)),.d (.str s_1)] (yP s n x) λ(rs:ON D) (H':ON Box)=>eO rs H' s n l x)/\((!false)=false->Mo Tryz.prog G 2 [OF (.int .i64 (x:Int)),.d (.str (Mm (Mn (Mi #[]))))] (yP s n x) λ(rs:ON D) (H':ON Box)=>eO rs H' s n l x))/\(decide ((x:Int)<(↑(OJ (OM N9 l)):Int))=false->([]:ON D)=[]/\yP s n x=eP s n l))
 ·kernel_rfl
 delta h95Cq6 h95Cq8 vF yP h95Cq1 vC yH vD eQ eO eP;refine⟨0,by omega,⟨⟨rfl,rfl,rfl,rfl,rfl,trivial⟩,⟨rfl,rfl,rfl,rfl,rfl,trivial⟩,⟨by simp,trivial⟩,rfl,trivial⟩,λi hi=>⟨λhlt=>?_,λhge=>?_⟩⟩
 ·simp only[Nv,NR]at hlt;obtain⟨z,hz,hm⟩:=zt (l:=l) (x:=i) (by omega);rw[M1,mh hz];refine⟨⟨by omega,by simp[hz]⟩,λ_=>(RE z).mono ?_,λh=>No h (by decide)⟩;rintro _ rfl;refine⟨_,rfl,(Wt s i (n+i) z.name).mono ?_⟩;rintro rs H' ⟨rfl,rfl⟩;exact⟨true,rfl,_,_,_,_,_,_,_,_,rfl,λh=>No h (by decide),λ_=>⟨i+1,by omega,by omega,⟨rfl,rfl,rfl,rfl,by rw[zu (by omega) (by omega)];simp,trivial⟩,⟨rfl,rfl,rfl,rfl,rfl,trivial⟩,⟨by rw[zu (by omega) (by omega)];simp;omega,trivial⟩,rfl,trivial⟩⟩
 ·simp only[Nv,M2]at hge;have e:i=l.length:=by omega
  rw[e];exact⟨rfl,rfl⟩
def eN (a:ON Gr) (b:Nat):D:=zk [NC,NP .i64] (OM Ny a) (N1 (b:Int))
def eM (a:Sc) (b:Int) (c:ON Gr):ON Box:=[h95Cq1 a,.cells 3 [.d (.int .i64 (b+(↑(OJ c):Int)))],h95Cq6]
def eL (a:ON D) (b:ON Box) (c:Sc) (d:Int) (e:ON Gr) (f:Nat):Prop:= ∃(b_1:Bool),a=[OD b_1]/\∃(l:ON D)(l_1:ON D)(l_2:ON D)(l_3:ON D)(l_4:ON D)(n:Int)(pend:OK Np)(st:NQ),b=yH l l_1 l_2 l_3 l_4 n pend st/\((!b_1)=true->([]:ON D)=[]/\yH l l_1 l_2 l_3 l_4 n pend st=eM c d e)/\((!b_1)=false->∃(y:Nat),y<=OJ e/\OJ e - y<OJ e - f/\(OF (.fn 104)=OF (.fn 104)/\NE 2=NE 2/\OM Ny e=OM Ny e/\(↑(OJ (OM Ny e)):Int)=(↑(OJ (OM Ny e)):Int)/\Nl .i64 ((f:Int)+1)=(y:Int)/\OG)/\(l=OM Nx (Ni c)/\l_1=OM N6 (Nh c)/\l_2=OM N9 (Nd c)/\l_3=OM Ny (Nb c)/\l_4 = OM N8 (Nj c)/\OG)/\(n=d+(y:Int)/\OG)/\M7 h95Cq8 (ze c158) (zo c158) (zc c158) pend st=h95Cq6/\OG)
theorem RB (s:Sc) (l:ON Gr) (n:Int) (h0:0<=n) (hl:l.length<1099511627776) (hk:n+l.length<4611686018427387904):Nn Tryz.prog G 103 [.d (.sl (l.map Ny)),.d (.fn 104),.yld 2] (hC s n) (λrs H'=>rs=[]/\H'=hC s (n+l.length)):=by
 refine zg (LL [(1,zT (α:=Nat) Tryz.prog G L0 3 (zz (z6 Tryz.f103) 0) [1,2,9,10] (λi=>i<=l.length) (λi=>l.length - i) (λi=>[(11,.d (.int .i64 i))]) (λH i=>hC s (n+i)++H.drop 3))]) Tryz.func103 rfl ⟨[],_,rfl,rfl⟩ (zm zy) ?_;apply @z7 _ (∃(x0:Nat),x0<=OJ l/\((OF (.fn 104)=OF (.fn 104)/\NE 2=NE 2/\OM Ny l=OM Ny l/\(↑(OJ (OM Ny l)):Int)=(↑(OJ (OM Ny l)):Int)/\(0:Int)=(x0:Int)/\OG)/\(OM Nx (Ni s)=OM Nx (Ni s)/\OM N6 (Nh s)=OM N6 (Nh s)/\OM N9 (Nd s)=OM N9 (Nd s)/\OM Ny (Nb s)=OM Ny (Nb s)/\OM N8 (Nj s)=OM N8 (Nj s)/\OG)/\(n=n+(x0:Int)/\OG)/\h95Cq6=h95Cq6/\OG)/\∀(x:Nat),x<=OJ l->(decide ((x:Int)<(↑(OJ (OM Ny l)):Int))=true->((0:Int)<=(x:Int)/\(OM Ny l)[N1 (x:Int)]? = some (eN l x))/\((!false)=true->OB Tryz.prog G 104 [eN l x] λ(rs:ON D)=>∃(s_1: ON UInt8),rs=[NZ s_1]/\Mo Tryz.prog G 2 [OF (.int .i64 (x:Int)),.d (.str s_1)] (yP s n x) λ(rs:ON D) (H':ON Box)=>eL rs H' s n l x)/\((!false)=false->Mo Tryz.prog G 2 [OF (.int .i64 (x:Int)),.d (.str (Mm (Mn (Mi #[]))))] (yP s n x) λ(rs:ON D) (H':ON Box)=>eL rs H' s n l x))/\(decide ((x:Int)<(↑(OJ (OM Ny l)):Int))=false->([]:ON D)=[]/\yP s n x=eM s n l))
 ·kernel_rfl
 delta h95Cq6 h95Cq8 vF yP h95Cq1 vC yH vD eN eL eM;refine⟨0,by omega,⟨⟨rfl,rfl,rfl,rfl,rfl,trivial⟩,⟨rfl,rfl,rfl,rfl,rfl,trivial⟩,⟨by simp,trivial⟩,rfl,trivial⟩,λi hi=>⟨λhlt=>?_,λhge=>?_⟩⟩
 ·simp only[Nv,NR]at hlt;obtain⟨z,hz,hm⟩:=zt (l:=l) (x:=i) (by omega);rw[M1,jT hz];refine⟨⟨by omega,by simp[hz]⟩,λ_=>(RD z).mono ?_,λh=>No h (by decide)⟩;rintro _ rfl;refine⟨_,rfl,(Wt s i (n+i) z.name).mono ?_⟩;rintro rs H' ⟨rfl,rfl⟩;exact⟨true,rfl,_,_,_,_,_,_,_,_,rfl,λh=>No h (by decide),λ_=>⟨i+1,by omega,by omega,⟨rfl,rfl,rfl,rfl,by rw[zu (by omega) (by omega)];simp,trivial⟩,⟨rfl,rfl,rfl,rfl,rfl,trivial⟩,⟨by rw[zu (by omega) (by omega)];simp;omega,trivial⟩,rfl,trivial⟩⟩
 ·simp only[Nv,M2]at hge;have e:i=l.length:=by omega
  rw[e];exact⟨rfl,rfl⟩
theorem Pm (i:Nat) (hi:i<100):OB Tryz.prog G 147 [.int .i64 i] (· = [.str (Hj i)]):=by refine CQ (v:= .string ⟨(Hj i).toArray⟩) (λI J w=>R1.str _) λc w vs hρ hr hvs=>?_;obtain⟨v1,vs1,rfl,h1,h2⟩:=hvs.cons_right;have:=h2.nil_right;subst this;cases h1;exact(Tryz.strconv_Itoa_small i hi w).mono λe w' h=>⟨h.1,by rw[h.2];exact Ah _ _⟩
theorem ZY (i:Nat) (hi:i<100):(Hj i).length<=2:=by
 rcases M0 i 10 with h|h
 ·rw[Lib.decDigits_one h];simp
 ·rw[Lib.decDigits_two (by omega) hi];simp
def hD (s:Sc) (n:Int) (w:Nm):ON Box:=[.cells 28 (pc s),.cells 3 [.d (.int .i64 n)],.loop tm158 (ze c158) (zo c158) (zc c158) none .ready,.cells 9 [.d (.str w)],.cells 173 [.yld 2]]
def h106q2:AV:=Ml 146 [] [N5 4 0,.ptr 3 0]
def mX (a:Sc) (b:Int) (c:Nm):ON Box:=[h95Cq1 a,.cells 3 [.d (.int .i64 b)],h95Cq6,.cells 9 [.d (.str c)],.cells 173 [.yld 2]]
theorem Q1 (s:Sc) (n:Int) (w:Nm):JP Tryz.prog G 106 [.d (.str w),.yld 2] (hC s n) (.clo 146 [] [.ptr 4 0,.ptr 3 0]) [.cells 9 [.d (.str w)],.cells 173 [.yld 2]]:=by
 refine JP.walk (fn:=Tryz.f106) (code:=z6 Tryz.f106) mixed L0 Tryz.func106 (by kernel_rfl) rfl u3 ?_;apply @z7 _ (h106q2=h106q2/\mX s n w=mX s n w)
 ·kernel_rfl
 delta h106q2 mX h95Cq1 h95Cq6 h95Cq8 vF yP vC yH vD;exact⟨rfl,rfl⟩
def o7 (a:Nm):ON Box:=[Ns 9 [.d (.str a)],.cells 173 [.yld 2]]
theorem Pk (s:Sc) (i:Nat) (n:Int) (nm w:Nm) (hi:i<100) (hw:w.length<100) (h0:0<=n) (hn:n<4611686018427387904):Nn Tryz.prog G 146 [.d (.int .i64 i),.d (.str nm),.ptr 4 0,.ptr 3 0] (hD s n w) (λrs H'=>rs=[.bool true]/\H'=hD s (n+1) w):=by
 refine zF Tryz.func146 rfl ⟨_,_,rfl,rfl⟩ ?_;apply @z7 _ (OB Tryz.prog G 147 [OH .i64 (i:Int)] λ(rs:ON D)=>∃(s_1:ON UInt8),rs=[NZ s_1]/\Nat.le (OJ w+OJ s_1) 9223372036854775807/\Mo Tryz.prog G 2 [OF (.int .i64 (i:Int)),.d (.str (w++s_1))] [h95Cq1 s,.cells 3 [.d (.int .i64 n)],h95Cq6] λ(rs:ON D) (H':ON Box)=>∃(b:Bool),rs=[OD b]/\∃(l:ON D)(l_1:ON D)(l_2:ON D)(l_3:ON D)(l_4:ON D)(n_1:Int)(pend:OK Np)(st:NQ),H'=yH l l_1 l_2 l_3 l_4 n_1 pend st/\[OD b]=[OD true]/\Ns 28 [.d (.sl l),.d (.sl l_1),.d (.sl l_2),.d (.sl l_3),.d (.sl l_4)]::Ns 3 [.d (.int .i64 n_1)]::M7 h95Cq8 (ze c158) (zo c158) (zc c158) pend st::o7 w=h95Cq1 s::Ns 3 [.d (.int .i64 (n+1))]::h95Cq6::o7 w)
 ·kernel_rfl
 delta h95Cq1 h95Cq6 h95Cq8 vF yP vC yH vD o7;refine(Pm i hi).mono ?_;rintro _ rfl;have hd:=ZY i hi;refine⟨_,rfl,?_,(Wt s i n _).mono ?_⟩
 ·show OJ w+OJ (Hj i)<=9223372036854775807;omega
 ·rintro rs H' ⟨rfl,rfl⟩;rw[zu (by omega) (by omega)];exact⟨true,rfl,_,_,_,_,_,_,_,_,rfl,rfl,rfl⟩
def wT (a:Nat):ON D:=M4 a (NY [])
def o8 (a:Sc) (b:Int) (c:Nat) (d:Nm):ON Box:=h95Cq1 a::Ns 3 [.d (.int .i64 (b+(c:Int)))]::h95Cq6::o7 d
def mW (a:ON D) (b:ON D) (c:ON D) (d:ON D) (e:ON D) (f:Int) (g:OK Np) (h:NQ) (i:ON UInt8):ON Box:=[Ns 28 [.d (.sl a),.d (.sl b),.d (.sl c),.d (.sl d),.d (.sl e)],.cells 3 [.d (.int .i64 f)],.loop h95Cq8 (ze c158) (zo c158) (zc c158) g h,.cells 9 [.d (.str i)],.cells 173 [.yld 2]]
theorem Pj (s:Sc) (m:Nat) (n:Int) (w:Nm) (hm:m<=8) (hw:w.length<100) (h0:0<=n) (hn:n<4611686018427387):Nn Tryz.prog G 105 [.d (.sl (M4 m (.agg []))),.nilf,.clo 146 [] [.ptr 4 0,.ptr 3 0]] (hD s n w) (λrs H'=>rs=[]/\H'=hD s (n+m) w):=by
 refine zg (LL [(1,zT (α:=Nat) Tryz.prog G L0 5 (zz (z6 Tryz.f105) 0) [1,2,9,10] (λi=>i<=m) (λi=>m - i) (λi=>[(11,.d (.int .i64 i))]) (λH i=>hD s (n+i) w++H.drop 5))]) Tryz.func105 rfl ⟨[],_,rfl,rfl⟩ (zm zy) ?_;apply @z7 _ (∃(x0:Nat),x0<=m/\((Fq=Fq/\h106q2=h106q2/\wT m=wT m/\(↑(OJ (wT m)):Int)=(↑(OJ (wT m)):Int)/\(0:Int)=(x0:Int)/\OG)/\(OM Nx (Ni s)=OM Nx (Ni s)/\OM N6 (Nh s)=OM N6 (Nh s)/\OM N9 (Nd s)=OM N9 (Nd s)/\OM Ny (Nb s)=OM Ny (Nb s)/\OM N8 (Nj s)=OM N8 (Nj s)/\OG)/\(n=n+(x0:Int)/\OG)/\h95Cq6=h95Cq6/\(w=w/\OG)/\(NE 2=NE 2/\OG)/\OG)/\∀(x:Nat),x<=m->(decide ((x:Int)<(↑(OJ (wT m)):Int))=true->((0:Int)<=(x:Int)/\(wT m)[N1 (x:Int)]? = some (NY []))/\((!true)=true->False)/\((!true)=false->Nn Tryz.prog G 146 [OF (.int .i64 (x:Int)),.d (.str (Mm (Mn (Mi #[])))),.ptr 4 0,.ptr 3 0] (o8 s n x w) λ(rs:ON D) (H':ON Box)=>∃(b:Bool),rs=[OD b]/\∃(l:ON D)(l_1:ON D)(l_2:ON D)(l_3:ON D)(l_4:ON D)(n_1:Int)(pend:OK Np)(st:NQ)(s_1:ON UInt8),H'=mW l l_1 l_2 l_3 l_4 n_1 pend st s_1/\((!b)=true->([]:ON D)=[]/\mW l l_1 l_2 l_3 l_4 n_1 pend st s_1=o8 s n m w)/\((!b)=false->∃(y:Nat),y<=m/\m - y<m - x/\(Fq=Fq/\h106q2=h106q2/\wT m=wT m/\(↑(OJ (wT m)):Int)=(↑(OJ (wT m)):Int)/\Nl .i64 ((x:Int)+1)=(y:Int)/\OG)/\(l=OM Nx (Ni s)/\l_1=OM N6 (Nh s)/\l_2=OM N9 (Nd s)/\l_3=OM Ny (Nb s)/\l_4=OM N8 (Nj s)/\OG)/\(n_1 = n+(y:Int)/\OG)/\M7 h95Cq8 (ze c158) (zo c158) (zc c158) pend st=h95Cq6/\(s_1=w/\OG)/\(NE 2=NE 2/\OG)/\OG)))/\(decide ((x:Int)<(↑(OJ (wT m)):Int))=false->([]:ON D)=[]/\o8 s n x w=o8 s n m w))
 ·kernel_rfl
 delta h106q2 mX h95Cq1 h95Cq6 h95Cq8 vF yP vC yH vD wT o8 o7 mW;refine⟨0,by omega,⟨⟨rfl,rfl,rfl,rfl,rfl,trivial⟩,⟨rfl,rfl,rfl,rfl,rfl,trivial⟩,⟨by simp,trivial⟩,rfl,⟨rfl,trivial⟩,⟨rfl,trivial⟩,trivial⟩,λi hi=>⟨λhlt=>?_,λhge=>?_⟩⟩
 ·simp only[HA,NR]at hlt;refine⟨⟨by omega,by rw[M1,ON.getElem?_replicate,Nf (by omega)]⟩,λh=>No h (by decide),λ_=>(Pk s i (n+i) _ w (by omega) hw (by omega) (by omega)).mono ?_⟩;rintro rs H' ⟨rfl,rfl⟩;exact⟨true,rfl,_,_,_,_,_,_,_,_,_,rfl,λh=>No h (by decide),λ_=>⟨i+1,by omega,by omega,⟨rfl,rfl,rfl,rfl,by rw[zu (by omega) (by omega)];simp,trivial⟩,⟨rfl,rfl,rfl,rfl,rfl,trivial⟩,⟨by simp;omega,trivial⟩,rfl,⟨rfl,trivial⟩,⟨rfl,trivial⟩,trivial⟩⟩
 ·simp only[HA,M2]at hge;have e:i=m:=by omega
  rw[e];exact⟨rfl,rfl⟩
def h94Cq2:ON AV:=[NE 2]
def h94Cq12:Box:=Ns 3 [.d (.int .i64 0)]
def wS (a:Sc):ON Box:=[h95Cq1 a,h94Cq12,h95Cq6]
def lA (a:Sc) (b:Int):ON Box:=[h95Cq1 a,.cells 3 [.d (.int .i64 (zY a b))],h95Cq6]
def eK (a:ON D) (b:ON D) (c:ON D) (d:ON D) (e:ON D) (f:Int) (g:OK Np) (h:NQ) (i:Sc) (j:Int):Prop:=yH a b c d e f g h=lA i j
def o9 (a:ON D) (b:ON Box) (c:Sc) (d:Int):Prop:=a=[]/\∃(l:ON D)(l_1:ON D)(l_2:ON D)(l_3:ON D)(l_4:ON D)(n:Int)(pend:OK Np)(st:NQ),b=yH l l_1 l_2 l_3 l_4 n pend st/\eK l l_1 l_2 l_3 l_4 n pend st c d
def h94Cq15:Prop:=(7:Int)=7/\(0:Int)<=7/\(7:Int)<=1000000000/\(↑0:Int)*(7:Int)<=281474976710656
def h94Cq9:AV:=OF (.str (Mm (Mn (Mi #[(100:UInt8),(97:UInt8),(121:UInt8)]))))
def h94Cq5:ON Box:=[Ns 9 [h94Cq9],.cells 173 h94Cq2]
def eJ (a:Nat->OK (ON D)) (b:Sc):Prop:=JP Tryz.prog a 106 (h94Cq9::h94Cq2) (wS b) h106q2 h94Cq5
def h94Cq7:ON D:=[NY [],.agg [],.agg [],.agg [],.agg [],.agg [],.agg []]
def kz (a:ON D) (b:ON Box) (c:Sc) (d:Int):Prop:=a=[]/\∃(l:ON D)(l_1:ON D)(l_2:ON D)(l_3:ON D)(l_4:ON D)(n:Int)(pend:OK Np)(st:NQ)(s:ON UInt8),b=mW l l_1 l_2 l_3 l_4 n pend st s/\eK l l_1 l_2 l_3 l_4 n pend st c d
def ky (a:Nat->OK (ON D)) (b:Sc) (c:Int):Prop:=Nn Tryz.prog a 105 [OF (.sl h94Cq7),.nilf,h106q2] (h95Cq1 b::h94Cq12::h95Cq6::h94Cq5) λ(rs:ON D) (H':ON Box)=>kz rs H' b c
def kw (a:Nat->OK (ON D)) (b:Sc) (c:Int):Prop:=h94Cq15/\eJ a b/\ky a b c
def h94Cq3:Prop:=(8:Int)=8/\(0:Int)<=8/\(8:Int)<=1000000000/\(↑0:Int)*(8:Int)<=281474976710656
def h94Cq8:AV:=OF (.str (Mm (Mn (Mi #[(104:UInt8),(111:UInt8),(117:UInt8),(115:UInt8),(101:UInt8)]))))
def ku (a:Nat->OK (ON D)) (b:Sc):Prop:=JP Tryz.prog a 106 (h94Cq8::h94Cq2) (wS b) h106q2 [Ns 9 [h94Cq8],.cells 173 h94Cq2]
def kt (a:Nat->OK (ON D)) (b:Sc) (c:Int):Prop:=Nn Tryz.prog a 105 [OF (.sl (NY []::h94Cq7)),.nilf,h106q2] [h95Cq1 b,h94Cq12,h95Cq6,.cells 9 [h94Cq8],.cells 173 h94Cq2] λ(rs:ON D) (H':ON Box)=>kz rs H' b c
def ks (a:Nat->OK (ON D)) (b:Sc) (c:Int):Prop:=h94Cq3/\ku a b/\kt a b c
theorem Pi (s:Sc) (k:Int) (hs:s.Fits):Nn Tryz.prog G 94 [.yld 2,.iptr [.int .i64 k],.iptr [.sl (s.slots.map Nx),.sl (s.rooms.map N6),.sl (s.people.map N9),.sl (s.groups.map Ny),.sl (s.lessons.map N8)]] (hC s 0) (λ_ H'=>H'=hC s (zY s k)):=by
 refine zF Tryz.func94 rfl ⟨[],_,rfl⟩ ?_;apply @z7 _ (((k==1)=true->Nn Tryz.prog G 95 (OF (.sl (OM N8 (Nj s)))::OF (.fn 96)::h94Cq2) (wS s) λ(rs:ON D) (H':ON Box)=>o9 rs H' s k)/\((k==1)=false->((k==2)=true->Nn Tryz.prog G 97 (OF (.sl (OM Nx (Ni s)))::OF (.fn 98)::h94Cq2) (wS s) λ(rs:ON D) (H':ON Box)=>o9 rs H' s k)/\((k==2)=false->((k==3)=true->Nn Tryz.prog G 99 (OF (.sl (OM N6 (Nh s)))::OF (.fn 100)::h94Cq2) (wS s) λ(rs:ON D) (H':ON Box)=>o9 rs H' s k)/\((k==3)=false->((k==4)=true->Nn Tryz.prog G 101 (OF (.sl (OM N9 (Nd s)))::OF (.fn 102)::h94Cq2) (wS s) λ(rs:ON D) (H':ON Box)=>o9 rs H' s k)/\((k==4)=false->((k==5)=true->Nn Tryz.prog G 103 (OF (.sl (OM Ny (Nb s)))::OF (.fn 104)::h94Cq2) (wS s) λ(rs:ON D) (H':ON Box)=>o9 rs H' s k)/\((k==5)=false->((k==6)=true->kw G s k/\kw G s k/\eJ G s/\h94Cq15/\ky G s k)/\((k==6)=false->((k==7)=true->ks G s k/\ks G s k/\ku G s/\h94Cq3/\kt G s k)/\((k==7)=false->wS s=lA s k))))))))
 ·kernel_rfl
 delta h94Cq2 wS h95Cq1 h95Cq6 h95Cq8 vF yP vC yH vD h94Cq12 o9 eK lA kw h94Cq15 eJ h94Cq9 h106q2 mX h94Cq5 ky h94Cq7 kz mW wT o8 o7 ks h94Cq3 ku h94Cq8 kt;have c1:k=1->zY s k=s.lessons.length:=λe=>by subst e;simp[zY,zh]
 have c2:k=2->zY s k=s.slots.length:=λe=>by subst e;simp[zY,zh]
 have c3:k=3->zY s k=s.rooms.length:=λe=>by subst e;simp[zY,zh]
 have c4:k=4->zY s k=s.people.length:=λe=>by subst e;simp[zY,zh]
 have c5:k=5->zY s k=s.groups.length:=λe=>by subst e;simp[zY,zh]
 have c6:k=6->zY s k=7:=λe=>by subst e;rfl
 have c7:k=7->zY s k=8:=λe=>by subst e;rfl
 have c0:k≠1->k≠2->k≠3->k≠4->k≠5->k≠6->k≠7->zY s k=0:=λa b c d e f g=>by simp[zY,zh,a,b,c,d,e,f,g]
 have row6:∀(m:Nat) (w:Nm),m<=8->w.length<100->Nn Tryz.prog G 105 [.d (.sl (M4 m (.agg []))),.nilf,.clo 146 [] [.ptr 4 0,.ptr 3 0]] (hD s 0 w) (λrs H'=>rs=[]/\H'=hD s m w):=λm w h1 h2=>(Pj s m 0 w h1 h2 (by omega) (by omega)).mono λrs H' h=>⟨h.1,by rw[h.2,IP]⟩;refine⟨λe=>?_,λn1=>⟨λe=>?_,λn2=>⟨λe=>?_,λn3=>⟨λe=>?_,λn4=>⟨λe=>?_,λn5=>⟨λe=>?_,λn6=>⟨λe=>?_,λn7=>?_⟩⟩⟩⟩⟩⟩⟩
 ·have e':k=1:=by simpa using e
  rw[c1 e'];have hl:=hs.lessons;refine(Pq s s.lessons 0 (by omega) hl (by omega)).mono ?_;rintro rs H' ⟨rfl,rfl⟩;rw[IP];exact⟨rfl,_,_,_,_,_,_,_,_,rfl,rfl⟩
 ·have e':k=2:=by simpa using e
  rw[c2 e'];have hl:=hs.slots;refine(Pp s s.slots 0 (by omega) hl (by omega)).mono ?_;rintro rs H' ⟨rfl,rfl⟩;rw[IP];exact⟨rfl,_,_,_,_,_,_,_,_,rfl,rfl⟩
 ·have e':k=3:=by simpa using e
  rw[c3 e'];have hl:=hs.rooms;refine(Po s s.rooms 0 (by omega) hl (by omega)).mono ?_;rintro rs H' ⟨rfl,rfl⟩;rw[IP];exact⟨rfl,_,_,_,_,_,_,_,_,rfl,rfl⟩
 ·have e':k=4:=by simpa using e
  rw[c4 e'];have hl:=hs.people;refine(RC s s.people 0 (by omega) hl (by omega)).mono ?_;rintro rs H' ⟨rfl,rfl⟩;rw[IP];exact⟨rfl,_,_,_,_,_,_,_,_,rfl,rfl⟩
 ·have e':k=5:=by simpa using e
  rw[c5 e'];have hl:=hs.groups;refine(RB s s.groups 0 (by omega) hl (by omega)).mono ?_;rintro rs H' ⟨rfl,rfl⟩;rw[IP];exact⟨rfl,_,_,_,_,_,_,_,_,rfl,rfl⟩
 ·have e':k=6:=by simpa using e
  rw[c6 e'];have hM:=Q1 (G:=G) s 0 [100,97,121];have hE:=row6 7 [100,97,121] (by omega) (by decide);refine⟨⟨⟨rfl,by decide,by decide,by decide⟩,hM,hE.mono ?_⟩,⟨⟨rfl,by decide,by decide,by decide⟩,hM,hE.mono ?_⟩,hM,⟨rfl,by decide,by decide,by decide⟩,hE.mono ?_⟩ <;>
  ·rintro rs H' ⟨rfl,rfl⟩;exact⟨rfl,_,_,_,_,_,_,_,_,_,rfl,rfl⟩
 ·have e':k=7:=by simpa using e
  rw[c7 e'];have hM:=Q1 (G:=G) s 0 [104,111,117,115,101];have hE:=row6 8 [104,111,117,115,101] (by omega) (by decide);refine⟨⟨⟨rfl,by decide,by decide,by decide⟩,hM,hE.mono ?_⟩,⟨⟨rfl,by decide,by decide,by decide⟩,hM,hE.mono ?_⟩,hM,⟨rfl,by decide,by decide,by decide⟩,hE.mono ?_⟩ <;>
  ·rintro rs H' ⟨rfl,rfl⟩;exact⟨rfl,_,_,_,_,_,_,_,_,_,rfl,rfl⟩
 ·rw[c0 (by simpa using n1) (by simpa using n2) (by simpa using n3) (by simpa using n4) (by simpa using n5) (by simpa using n6) (by simpa using n7)]
def Q2 (ds:ON D):AV:= .clo 94 [] [.iptr [ds.getD 1 default],.iptr (ds.getD 0 default).cells]
def eI (a:Sc):ON D:=[OE (OM Nx (Ni a)),.sl (OM N6 (Nh a)),.sl (OM N9 (Nd a)),.sl (OM Ny (Nb a)),.sl (OM N8 (Nj a))]
theorem h158 (s:Sc) (k:Int) (hs:s.Fits):OB Tryz.prog G 158 [s.d,.int .i64 k] (· = [.int .i64 (zY s k)]):=by
 rw[zf];refine zr (LL [(1000002,vI Tryz.prog G [5] Q2 c158)]) Tryz.func158 ⟨_,rfl⟩ (zm (yL (by kernel_rfl))) ?_;apply @z7 _ ((PFnA Tryz.prog G 56 [NY (eI s),.int .i64 k] λ(av:AV)=>av=Ml 94 [] [Ma [.int .i64 k],.iptr (eI s)])/\Nn Tryz.prog G 94 [NE 2,.iptr [.int .i64 k],.iptr (eI s)] (wS s) λ(x:ON D) (H':ON Box)=>∃(l:ON D)(l_1:ON D)(l_2:ON D)(l_3:ON D)(l_4:ON D)(n:Int)(pend:OK Np)(st:NQ),H'=yH l l_1 l_2 l_3 l_4 n pend st/\st≠J3/\(pend=none/\[OH .i64 n]=[OH .i64 (zY s k)]∨pend=some Lg/\[OH .i64 0]=[OH .i64 (zY s k)]∨pend=some (Jk (aa c158))/\[OH .i64 n]=[OH .i64 (zY s k)]))
 ·kernel_rfl
 delta eI wS h94Cq2 h95Cq1 h95Cq6 h95Cq8 vF yP vC yH vD h94Cq12 o9 eK lA kw h94Cq15 eJ h94Cq9 h106q2 mX h94Cq5 ky h94Cq7 kz mW wT o8 o7 ks h94Cq3 ku h94Cq8 kt;refine⟨h56 s k,(Pi s k hs).mono ?_⟩;rintro rs H' rfl;exact⟨_,_,_,_,_,_,_,_,rfl,by decide,.inl ⟨rfl,rfl⟩⟩
end
end Go.Fo
