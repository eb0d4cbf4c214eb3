/-
  SEVERAL TEXTS IN ONE (merged by program): contracts and models, each with its own heading.
-/
import Derived.Test.YtokkjobjffhfjaaGreatDoorPartZibG
import Derived.Lib.SplitLaws
import Derived.Lib.TrimByte
import Derived.Shelf.Strings.Trim
import Derived.Shelf.Strings.Split
import Derived.Test.YtokkjobjffhfjaaGreatDoorProg
import Derived.Test.YtokkjobjffhfjaaGreatDoorRows
import Derived.OpenShut
import Derived.LaidMore
import Derived.Stop.LaidErr
set_option maxHeartbeats 8000000
open Go.Proofs Go.Proofs.Tryz
set_option linter.unusedSimpArgs false
set_option linter.unusedVariables false
set_option maxRecDepth 4000
set_option maxRecDepth 100000
set_option maxRecDepth 8000
namespace Go.Ab
noncomputable def Bh(s:List UInt8):Bool:=lD s&&Dc (jB s)
noncomputable def Bj(s:List UInt8):aI:=if lD s=true then Jo (jB s) else Dt
abbrev aI.cl(p:aI)(n:Nat):List C:=[.d (.s p.fName),.d (.ol n (p.jv.map encS)),.d (.ol (n+1) (dO (p.dV.map bA.enc) (n+1+1))),.d (.ol (Av p n) (dO (p.aV.map aS.enc) (Av p n+1))),.d (.ol (Aw p n) (dO (p.dI.map aP.enc) (Aw p n+1))),.d (.ol (Cv p n) (dO (p.cu.map aU.enc) (Cv p n+1)))]
theorem I5(p:aI)(n:Nat):(eT p.enc n).map C.d=p.cl n:=by rw[IZ];rfl
theorem UQ(s:List UInt8)(hs:s.length<=1048576):aH prog 11 [.c (.d (.s s))] (.dL [(true,(Bj s).cv),(false,[.d (.b (Bh s))])]):=aH.of_le fun S=>by
 have hz:=X3 s;have c1:=Uv s hs;have c2:=aaf (jB s) hz
 have fU:lD s=false->Less (.dL [(true,vW),(false,[.d (.b false)])]) (.dL [(true,(Bj s).cv),(false,[.d (.b (Bh s))])]):=fun e=>by
  have e1:Bj s=Dt:=if_neg (by rw[e];decide)
  have e2:Bh s=false:=by unfold Bh;rw[e];rfl
  rw[e2];exact aow _ e1 false
 have QA:lD s=true->Bj s=Jo (jB s)/\Bh s=Dc (jB s):=fun e=>⟨if_pos e,by unfold Bh;rw[e];rfl⟩;obtain⟨X,hX⟩:∃X,X=jB s:=⟨_,rfl⟩;rw[<-hX] at c1 c2 QA;refine zcx [.cell 2 40,.tmp 3] func11 ntmps11 ?_;refine W1 ?_;refine aX c1 ?_;simp -implicitDefEqProofs (disch:=omega) only[go_sem,aj.aA,List.map_cons,List.map_nil];refine S0 (fun hb h=>?_) fun hb h=>?_
 ·exact fU h
 ·obtain⟨q1,q2⟩:=QA h;rw[q1,q2];refine aX c2 ?_;simp -implicitDefEqProofs (disch:=omega) only[go_sem,aI.cv];exact gy _
theorem QB(s:List UInt8)(n:Nat)(hs:s.length<=1048576):aH prog 12 [.c (.d (.s s))] (.dL [(true,(eT (Bj s).enc n).map .d),(false,[.d (.b (Bh s))])]):=aH.of_le fun S=>by
 rw[I5];have hz:=X3 s;have c1:=UA s (by omega);have c2:=UO (jB s) n hz;rw[I5] at c2
 have fU:lD s=false->Less (.dL [(true,vW),(false,[.d (.b false)])]) (.dL [(true,(Bj s).cl n),(false,[.d (.b (Bh s))])]):=fun e=>by
  have e1:Bj s=Dt:=if_neg (by rw[e];decide)
  have e2:Bh s=false:=by unfold Bh;rw[e];rfl
  rw[e2,<-I5];exact ag2 _ e1 n false
 have QA:lD s=true->Bj s=Jo (jB s)/\Bh s=Dc (jB s):=fun e=>⟨if_pos e,by unfold Bh;rw[e];rfl⟩;obtain⟨X,hX⟩:∃X,X=jB s:=⟨_,rfl⟩;rw[<-hX] at c1 c2 QA;refine zcx [.cell 2 40,.tmp 3] func12 ntmps12 ?_;refine W1 ?_;refine aX c1 ?_;simp -implicitDefEqProofs (disch:=omega) only[go_sem,aj.aA,List.map_cons,List.map_nil];refine S0 (fun hb h=>?_) fun hb h=>?_
 ·exact fU h
 ·obtain⟨q1,q2⟩:=QA h;rw[q1,q2];refine aX c2 ?_;refine W1 ?_;exact gy _
def spl(c:UInt8)(acc:List UInt8):List UInt8->List (List UInt8)
 |[]=>[acc]
 |b::t=>if b=c then acc::spl c [] t else spl c (acc++[b]) t
theorem YB(c:UInt8):∀(s acc:List UInt8),(∀k:Nat,s[k]? ≠some c)->spl c acc s=[acc++s]
 |[],acc,_=>by simp[spl]
 |b::t,acc,h=>by
  have hb:b≠c:=fun e=>h 0 (by simp[e]);rw[spl,if_neg hb,YB c t _ fun k hk=>h (k+1) (by simpa using hk)]
  simp
theorem YC(c:UInt8):∀(i:Nat)(s acc:List UInt8),s[i]? =some c->(∀k,k<i->s[k]? ≠some c)->spl c acc s=(acc++s.take i)::spl c [] (s.drop (i+1))
 |_,[],acc,h,_=>by simp at h
 |0,b::t,acc,h,_=>by
  obtain rfl:b=c:=by simpa using h
  simp[spl]
 |i+1,b::t,acc,h,hk=>by
  have hb:b≠c:=fun e=>hk 0 (by omega) (by simp[e]);rw[spl,if_neg hb,YC c i t _ (by simpa using h) fun k hki hkc=>hk (k+1) (by omega) (by simpa using hkc)]
  simp
theorem adW(c:UInt8):∀(n:Nat)(s:List UInt8),s.length<=n->Lib.splitK [c] 0 (s.count c) s=spl c [] s:=by
 intro n
 induction n with
 |zero=>
  intro s hs;obtain rfl:s=[]:=List.eq_nil_of_length_eq_zero (by omega);rfl
 |succ n ih=>
  intro s hs;have hx:=Lib.indexByte_ge s c;by_cases hn:Lib.indexByte s c= -1
  ·have h0:=Lib.indexByte_none hn;rw[YB c s [] h0]
   have hc:s.count c=0:=List.count_eq_zero.2 fun hm=>by
    obtain⟨k,hk⟩:=List.mem_iff_getElem?.1 hm;exact h0 k hk
   rw[hc];rfl
  ·obtain⟨i,hi⟩:∃i:Nat,Lib.indexByte s c=i:=⟨(Lib.indexByte s c).toNat,by omega⟩;obtain⟨h1,h2⟩:=Lib.indexByte_some hi;rw[YC c i s [] h1 h2,List.nil_append];have hil:=(List.getElem?_eq_some_iff.1 h1).1
   have hs2:s=s.take i++c::s.drop (i+1):=by
    conv=>lhs;rw[<-List.take_append_drop i s]
    rw[List.drop_eq_getElem_cons hil,(List.getElem?_eq_some_iff.1 h1).2]
   have hc0:(s.take i).count c=0:=List.count_eq_zero.2 fun hm=>by
    obtain⟨k,hk⟩:=List.mem_iff_getElem?.1 hm;have hkl:=(List.getElem?_eq_some_iff.1 hk).1;rw[List.length_take] at hkl;rw[List.getElem?_take_of_lt (by omega)] at hk;exact h2 k (by omega) hk
   have hc:s.count c=(s.drop (i+1)).count c+1:=by
    conv=>lhs;rw[hs2]
    rw[List.count_append,hc0,List.count_cons_self,Nat.zero_add]
   rw[hc,Lib.splitK,Lib.index_one,hi,if_neg (by simp)];have:=ih (s.drop (i+1)) (by rw[List.length_drop];omega);simpa using this
theorem LX(c:UInt8):∀(s acc:List UInt8),(spl c acc s).length<=s.length+1/\∀l∈spl c acc s,l.length<=acc.length+s.length
 |[],acc=>by simp[spl]
 |b::t,acc=>by
  rw[spl];split
  ·have:=LX c t [];refine⟨by simp only[List.length_cons];omega,fun l hl=> ?_⟩;rcases List.mem_cons.1 hl with rfl|hl
   ·omega
   ·have:=this.2 l hl;simp only[List.length_nil,List.length_cons] at *;omega
  ·have:=LX c t (acc++[b]);refine⟨by simp only[List.length_cons];omega,fun l hl=> ?_⟩;have:=this.2 l hl;simp only[List.length_append,List.length_cons,List.length_nil] at *;omega
theorem aa3(c:UInt8):∀(s acc:List UInt8),1<=(spl c acc s).length
 |[],acc=>by simp[spl]
 |b::t,acc=>by
  rw[spl];split
  ·simp
  ·exact aa3 c t _
def GV(s:List UInt8):Bool:=s.all fun b=>decide (b=32)
theorem QC(s:List UInt8):Lib.trimB s 32=[]<->GV s=true:=by
 unfold Lib.trimB Lib.trimLeftB Lib.trimRightB GV;constructor
 ·intro h
  have h1:∀b∈(s.reverse.dropWhile (· ==32)).reverse,b=32:=by
   intro b hb
   have h2:∀l:List UInt8,l.dropWhile (· ==32)=[]->∀b∈l,b=32:=by
    intro l
    induction l with
    |nil=>intro _ b hb;simp at hb
    |cons a l ih=>
     intro hl b hb;rw[List.dropWhile_cons] at hl;split at hl
     ·rename_i ha;rcases List.mem_cons.1 hb with rfl|hb
      ·simpa using ha
      ·exact ih hl b hb
     ·cases hl
   exact h2 _ h b hb
  rw[List.all_eq_true];intro b hb
  have h3:∀l:List UInt8,(∀b∈l.dropWhile (· ==32),b=32)->∀b∈l,b=32:=by
   intro l
   induction l with
   |nil=>intro _ b hb;simp at hb
   |cons a l ih=>
    intro hl b hb;rw[List.dropWhile_cons] at hl;split at hl
    ·rename_i ha;rcases List.mem_cons.1 hb with rfl|hb
     ·simpa using ha
     ·exact ih hl b hb
    ·exact hl b hb
  have:=h3 s.reverse (fun b hb=>h1 b (by simpa using hb)) b (by simpa using hb);simpa using this
 ·intro h
  have h0:∀l:List UInt8,(∀b∈l,b=32)->l.dropWhile (· ==32)=[]:=by
   intro l
   induction l with
   |nil=>intro _;rfl
   |cons a l ih=>
    intro hl;rw[List.dropWhile_cons,if_pos (by simp[hl a (by simp)])];exact ih fun b hb=>hl b (by simp[hb])
  have h1:∀b∈s,b=32:=fun b hb=>by simpa using List.all_eq_true.1 h b hb
  rw[h0 s.reverse fun b hb=>h1 b (by simpa using hb)];rfl
noncomputable def rO:List (List UInt8)->List aI->List aI×Int
 |[],acc=>(acc,-1)
 |l::ls,acc=>if GV l=true then rO ls acc else if Bh l=true/\acc.length≠5 then rO ls (acc++[Bj l]) else([],acc.length)
noncomputable def K4(s:List UInt8):dU:=⟨(rO (spl 10 [] s) []).1⟩
noncomputable def R4(s:List UInt8):Int:=(rO (spl 10 [] s) []).2
theorem amK(x:aj):(Jo x).sz<=190000:=by
 unfold Jo;split
 ·rename_i h;have h:x.sz<=11700:=tC (gH h).1.1;have h1:=XE x.ah 3;have h2:=eG x
  have h3:(x.ah.drop 3).length<=x.ah.length:=by rw[List.length_drop];omega
  have h4:=rY (gX x.ah 2).ah;have h5:(gX x.ah 2).sz<=dx x.ah:=xE x.ah 2;have h5':=qP (gX x.ah 2);have h6:(dJ x.ah 1).length<=dx x.ah:=Nat.le_trans (AZ _) (xE x.ah 1);have t1:=Al kr vK bA.enc aaU (x.ah.drop 3);have t2:=Al oK rZ aS.enc agR (x.ah.drop 3);have t3:=Al lu rJ aP.enc agS (x.ah.drop 3);have t4:=Al xX vT aU.enc agT (x.ah.drop 3);have t5:=eG (gX x.ah 2)
  simp only[aI.sz,aI.aA,bT,bK,D.sz,List.length_map,decP,IV,IW,IX,IY,o9,dK] at *
  omega
 ·simp[Dt,aI.sz,aI.aA,bT,D.sz,bf]
theorem akd(s:List UInt8):(Bj s).sz<=190000:=by
 unfold Bj;split
 ·exact amK (jB s)
 ·simp[Dt,aI.sz,aI.aA,bT,D.sz,bf]
theorem Ub:∀a b:List (List D),bf (a++b)=bf a+bf b
 |[],b=>by simp[bf]
 |r::a,b=>by rw[List.cons_append,bf,bf,Ub a b];omega
theorem K5:∀(ls:List (List UInt8))(acc:List aI),acc.length<=5->bf (acc.map aI.enc)<=acc.length*190000->(rO ls acc).1.length<=5/\bf ((rO ls acc).1.map aI.enc)<=950000
 |[],acc,h1,h2=>⟨h1,by rw[rO];have:acc.length*190000<=5*190000:=Nat.mul_le_mul_right _ h1;simp only;omega⟩
 |l::ls,acc,h1,h2=>by
  rw[rO];split
  ·exact K5 ls acc h1 h2
  ·split
   ·rename_i h;refine K5 ls _ (by rw[List.length_append,List.length_singleton];omega) ?_;have h3:=akd l;rw[List.map_append,Ub]
    simp only[List.map_cons,List.map_nil,bf,List.length_append,List.length_singleton] at *
    rw[aI.sz] at h3;omega
   ·exact⟨by simp,by simp[bf]⟩
theorem aox(s:List UInt8):(K4 s).sz<=1048576:=by
 obtain⟨h1,h2⟩:=K5 (spl 10 [] s) [] (by simp) (by simp[bf]);rw[dU.sz];simp only[K4,dU.aA,bT,D.sz,List.length_map];omega
end Go.Ab
namespace Go.Proofs
open Go.Shelf
def Tryz.lays160_ren:Go.Shelf.Ren:=⟨fun|160=>54|232=>100|231=>99|227=>101|234=>103|233=>102|236=>105|235=>104|228=>171|271=>174|151=>173|197=>172|120=>251|152=>250|260=>249|137=>126|119=>294|224=>295|225=>296|217=>187|266=>255|n=>n,fun|9=>9|4=>4|3=>3|5=>5|117=>131|116=>130|0=>0|124=>134|21=>21|105=>189|46=>262|119=>261|139=>265|138=>264|n=>n,fun|3=>0|4=>1|n=>n⟩
theorem Tryz.lays160:Go.Proofs.Lays.n160 prog Tryz.lays160_ren:={
 mixed:=by kernel_rfl
 f119:=func294.trans (congrArg some (by kernel_rfl))
 f120:=func251.trans (congrArg some (by kernel_rfl))
 f137:=func126.trans (congrArg some (by kernel_rfl))
 f151:=func173.trans (congrArg some (by kernel_rfl))
 f152:=func250.trans (congrArg some (by kernel_rfl))
 f160:=func54.trans (congrArg some (by kernel_rfl))
 f197:=func172.trans (congrArg some (by kernel_rfl))
 f217:=func187.trans (congrArg some (by kernel_rfl))
 f224:=func295.trans (congrArg some (by kernel_rfl))
 f225:=func296.trans (congrArg some (by kernel_rfl))
 f227:=func101.trans (congrArg some (by kernel_rfl))
 f228:=func171.trans (congrArg some (by kernel_rfl))
 f231:=func99.trans (congrArg some (by kernel_rfl))
 f232:=func100.trans (congrArg some (by kernel_rfl))
 f233:=func102.trans (congrArg some (by kernel_rfl))
 f234:=func103.trans (congrArg some (by kernel_rfl))
 f235:=func104.trans (congrArg some (by kernel_rfl))
 f236:=func105.trans (congrArg some (by kernel_rfl))
 f260:=func249.trans (congrArg some (by kernel_rfl))
 f266:=func255.trans (congrArg some (by kernel_rfl))
 f271:=func174.trans (congrArg some (by kernel_rfl))
 t0:=underlying0
 a0:=Tryz.isAgg0
 z0:=Tryz.sizeOf0
 v0:=Tryz.zeroValue0
 t3:=underlying3
 a3:=Tryz.isAgg3
 z3:=Tryz.sizeOf3
 v3:=Tryz.zeroValue3
 t4:=underlying4
 a4:=Tryz.isAgg4
 z4:=Tryz.sizeOf4
 v4:=Tryz.zeroValue4
 t5:=underlying5
 a5:=Tryz.isAgg5
 z5:=Tryz.sizeOf5
 v5:=Tryz.zeroValue5
 t9:=underlying9
 a9:=Tryz.isAgg9
 z9:=Tryz.sizeOf9
 v9:=Tryz.zeroValue9
 t21:=underlying21
 a21:=Tryz.isAgg21
 z21:=Tryz.sizeOf21
 v21:=Tryz.zeroValue21
 t46:=underlying262
 a46:=Tryz.isAgg262
 z46:=Tryz.sizeOf262
 v46:=Tryz.zeroValue262
 t105:=underlying189
 a105:=Tryz.isAgg189
 z105:=Tryz.sizeOf189
 v105:=Tryz.zeroValue189
 t116:=underlying130
 a116:=Tryz.isAgg130
 z116:=Tryz.sizeOf130
 t117:=underlying131
 a117:=Tryz.isAgg131
 z117:=Tryz.sizeOf131
 v117:=Tryz.zeroValue131
 t119:=underlying261
 a119:=Tryz.isAgg261
 z119:=Tryz.sizeOf261
 t124:=underlying134
 a124:=Tryz.isAgg134
 z124:=Tryz.sizeOf134
 v124:=Tryz.zeroValue134
 t138:=underlying264
 a138:=Tryz.isAgg264
 z138:=Tryz.sizeOf264
 v138:=Tryz.zeroValue264
 t139:=underlying265
 a139:=Tryz.isAgg265
 z139:=Tryz.sizeOf265
 v139:=Tryz.zeroValue265
 g3:=by kernel_rfl
 g4:=by kernel_rfl}
open Go.RowKit in
theorem Tryz.strings_Trim_one(s:ByteArray)(c:UInt8)(hc:c.toNat<128)(w:World)(hs:s.size<=9223372036854775807):
 Calls prog 54 #[.string s,.string ⟨#[c]⟩] w fun e w'=>e=.returned (.string ⟨(Lib.trimB s.data.toList c).toArray⟩)/\(w'=w\/w'=w.drew):=Any.strings_Trim_one Tryz.lays160 s c hc w hs
def Tryz.lays221_ren:Go.Shelf.Ren:=⟨fun|221=>170|268=>246|138=>247|143=>248|195=>291|197=>172|218=>292|219=>293|260=>249|217=>187|225=>296|224=>295|267=>316|266=>255|314=>338|n=>n,fun|9=>9|3=>3|31=>34|4=>4|0=>0|105=>189|21=>21|5=>5|46=>262|119=>261|139=>265|138=>264|146=>294|51=>293|n=>n,fun|1=>2|3=>0|4=>1|n=>n⟩
theorem Tryz.lays221:Go.Proofs.Lays.n221 prog Tryz.lays221_ren:={
 mixed:=by kernel_rfl
 f138:=func247.trans (congrArg some (by kernel_rfl))
 f143:=func248.trans (congrArg some (by kernel_rfl))
 f195:=func291.trans (congrArg some (by kernel_rfl))
 f197:=func172.trans (congrArg some (by kernel_rfl))
 f217:=func187.trans (congrArg some (by kernel_rfl))
 f218:=func292.trans (congrArg some (by kernel_rfl))
 f219:=func293.trans (congrArg some (by kernel_rfl))
 f221:=func170.trans (congrArg some (by kernel_rfl))
 f224:=func295.trans (congrArg some (by kernel_rfl))
 f225:=func296.trans (congrArg some (by kernel_rfl))
 f260:=func249.trans (congrArg some (by kernel_rfl))
 f266:=func255.trans (congrArg some (by kernel_rfl))
 f267:=func316.trans (congrArg some (by kernel_rfl))
 f268:=func246.trans (congrArg some (by kernel_rfl))
 f314:=func338.trans (congrArg some (by kernel_rfl))
 t0:=underlying0
 a0:=Tryz.isAgg0
 z0:=Tryz.sizeOf0
 v0:=Tryz.zeroValue0
 t3:=underlying3
 a3:=Tryz.isAgg3
 z3:=Tryz.sizeOf3
 v3:=Tryz.zeroValue3
 t4:=underlying4
 a4:=Tryz.isAgg4
 z4:=Tryz.sizeOf4
 v4:=Tryz.zeroValue4
 t5:=underlying5
 a5:=Tryz.isAgg5
 z5:=Tryz.sizeOf5
 v5:=Tryz.zeroValue5
 t9:=underlying9
 a9:=Tryz.isAgg9
 z9:=Tryz.sizeOf9
 v9:=Tryz.zeroValue9
 t21:=underlying21
 a21:=Tryz.isAgg21
 z21:=Tryz.sizeOf21
 v21:=Tryz.zeroValue21
 t31:=underlying34
 a31:=Tryz.isAgg34
 z31:=Tryz.sizeOf34
 v31:=Tryz.zeroValue34
 t46:=underlying262
 a46:=Tryz.isAgg262
 z46:=Tryz.sizeOf262
 v46:=Tryz.zeroValue262
 t51:=underlying293
 a51:=Tryz.isAgg293
 z51:=Tryz.sizeOf293
 v51:=Tryz.zeroValue293
 t105:=underlying189
 a105:=Tryz.isAgg189
 z105:=Tryz.sizeOf189
 v105:=Tryz.zeroValue189
 t119:=underlying261
 a119:=Tryz.isAgg261
 z119:=Tryz.sizeOf261
 t138:=underlying264
 a138:=Tryz.isAgg264
 z138:=Tryz.sizeOf264
 v138:=Tryz.zeroValue264
 t139:=underlying265
 a139:=Tryz.isAgg265
 z139:=Tryz.sizeOf265
 v139:=Tryz.zeroValue265
 t146:=underlying294
 a146:=Tryz.isAgg294
 z146:=Tryz.sizeOf294
 v146:=Tryz.zeroValue294
 g1:=by kernel_rfl
 g3:=by kernel_rfl
 g4:=by kernel_rfl}
end Go.Proofs
namespace Go.Ab
theorem ag5{w:World}{σ:Nat->Nat}(hl:∀b,b<w.heap.size\/σ b=0)(L:List (List UInt8))(e:TypeId)(hL:1<=L.length):
 ∃σ',Grow w σ (w.alloc (.cells (L.map fun l=>Value.string ⟨l.toArray⟩).toArray e)) σ'/\dH (w.alloc (.cells (L.map fun l=>Value.string ⟨l.toArray⟩).toArray e)) σ' (.sl (L.map encS)) (.slice (some ⟨w.heap.size,0,none⟩) L.length L.length):=by
 have hn:=heap_alloc_new w (.cells (L.map fun l=>Value.string ⟨l.toArray⟩).toArray e)
 have hfl:(L.map encS).flatten=L.map D.s:=by
  induction L with
  |nil=>rfl
  |cons a L ih=>
   cases L with
   |nil=>rfl
   |cons b L=>
    have:=ih (by simp) (heap_alloc_new _ _);rw[List.map_cons,List.flatten_cons,this];rfl
 refine⟨fun b=>if b=w.heap.size then L.length else σ b,⟨by simp,rfl,rfl,fun b hb=>⟨Lib.alloc_old w _ b hb,if_neg (by omega)⟩,fun b=> ?_⟩,?_⟩
 ·by_cases q:b=w.heap.size
  ·left;subst q;simp
  ·rw[if_neg q];exact(hl b).imp (fun h=>by simp;omega) id
 ·have:=dH.sl (w:=w.alloc (.cells (L.map fun l=>Value.string ⟨l.toArray⟩).toArray e)) (σ:=fun b=>if b=w.heap.size then L.length else σ b) w.heap.size 0 L.length 1 (L.map encS) (fun i=>.string ⟨(L.getD i []).toArray⟩) _ e (0,0) (by simp) (by simp[encS]) hn (by simp) (fun i hi=>by
   simp only[List.length_map] at hi
   have hi:i<L.length:=by omega
   simp[hi,List.getD]) (fun i d hd=>by
   rw[hfl,List.getElem?_map] at hd
   cases hli:L[i]? with
   |none=>rw[hli] at hd;cases hd
   |some l=>
    rw[hli] at hd;cases hd;simp only[List.getD,hli,Option.getD_some]
    exact .s _)
  simp only[List.length_map] at this;exact this
open Go.RowKit
theorem ag6(s:List UInt8)(hs:s.length<=1048576)(w:World):
 Calls prog 98 #[.string ⟨s.toArray⟩,.string ⟨#[10]⟩] w fun e w'=>e=.returned (.slice (some ⟨w.heap.size,0,none⟩) (spl 10 [] s).length (spl 10 [] s).length)/\w'=w.alloc (.cells ((spl 10 [] s).map fun l=>Value.string ⟨l.toArray⟩).toArray 9):=by
 have hsz:(⟨s.toArray⟩:ByteArray).size=s.length:=by simp[ByteArray.size]
 have hle:=Lib.countB_le ⟨#[10]⟩ (by decide) _ (⟨s.toArray⟩:ByteArray) (Nat.le_refl _);have hlen:=Lib.splitB_all ⟨#[10]⟩ (by decide) 0 _ (⟨s.toArray⟩:ByteArray) rfl;have hdata:=Lib.splitB_data ⟨#[10]⟩ 0 (Lib.countB ⟨s.toArray⟩ ⟨#[10]⟩) ⟨s.toArray⟩;have hcnt:Lib.countB ⟨s.toArray⟩ ⟨#[10]⟩=s.count 10:=Lib.count_one 10 s
 have hsp:(Lib.splitB ⟨#[10]⟩ 0 (Lib.countB ⟨s.toArray⟩ ⟨#[10]⟩) ⟨s.toArray⟩).map (·.data.toList)=spl 10 [] s:=by
  rw[hdata,hcnt];exact adW 10 _ s (Nat.le_refl _)
 have hl2:(spl 10 [] s).length=Lib.countB ⟨s.toArray⟩ ⟨#[10]⟩+1:=by rw[<-hsp,List.length_map,hlen]
 have hcells:(Lib.splitB ⟨#[10]⟩ 0 (Lib.countB ⟨s.toArray⟩ ⟨#[10]⟩) ⟨s.toArray⟩).map Value.string=(spl 10 [] s).map fun l=>Value.string ⟨l.toArray⟩:=by
  rw[<-hsp,List.map_map];refine List.map_congr_left fun x _=> ?_
  simp
 have c:=Any.strings_genSplit_core Tryz.lays221 (by kernel_rfl) ⟨s.toArray⟩ ⟨#[10]⟩ 0 (-1) (Lib.countB ⟨s.toArray⟩ ⟨#[10]⟩+1) w (by omega) (by decide) (Nat.zero_le _)
  (fun x c hx=>(Any.strings_Index_one {Tryz.lays221 with} x 10 _).mono fun e w' ⟨he,hw⟩=>⟨by rw[he,<-Lib.index_one],hw⟩) ((Any.strings_Count_one {Tryz.lays221 with} ⟨s.toArray⟩ 10 w).mono fun e w' ⟨he,hw⟩=>⟨by rw[he,hcnt];rfl,hw⟩) (by decide) (by decide) (by rw[if_pos (by decide)];omega)
 rw[Nat.add_sub_cancel,hlen] at c
 have e2:Lib.cellsOf (Lib.splitB ⟨#[10]⟩ 0 (Lib.countB ⟨s.toArray⟩ ⟨#[10]⟩) ⟨s.toArray⟩) (Lib.countB ⟨s.toArray⟩ ⟨#[10]⟩+1)=((Lib.splitB ⟨#[10]⟩ 0 (Lib.countB ⟨s.toArray⟩ ⟨#[10]⟩) ⟨s.toArray⟩).map Value.string).toArray:=by rw[<-hlen];exact Lib.cellsOf_full _
 rw[e2,hcells,<-hl2] at c;clear hcnt hdata hlen hle hsp hl2 hcells e2 hsz
 go_enter func98,ntmps98
 go_wp2_with (go_at_call 170;refine c.mono ?_;rintro e w' ⟨rfl,hw⟩;rw[hw])
 go_ret
 exact⟨rfl,rfl⟩
theorem aah(s:List UInt8)(hs:s.length<=1048576):aH prog 98 [.c (.d (.s s)),.c (.d (.s [10]))] (.c (.d (.sl ((spl 10 [] s).map encS)))):=fun S=>by
 refine⟨⟨_,func98,by kernel_rfl,by kernel_rfl⟩,fun w σ β vs hS hv=> ?_⟩;obtain⟨hvl,hv⟩:=hv;obtain⟨u0,k0,r0⟩:=hv 0 _ rfl;obtain⟨u1,k1,r1⟩:=hv 1 _ rfl
 obtain rfl:vs=[u0,u1]:=by
  match vs,hvl,k0,k1 with
  |[a,b],_,k0,k1=>simp at k0 k1;rw[k0,k1]
 obtain rfl:u0=.string ⟨s.toArray⟩:=by cases r0.1;rfl
 obtain rfl:u1=.string ⟨#[10]⟩:=by cases r1.1;rfl
 refine(ag6 s hs w).mono fun e w' ⟨he,hw⟩=> ?_;obtain⟨σ',hg,hr⟩:=ag5 hS.live (spl 10 [] s) 9 (aa3 10 s []);rw[<-hw] at hg hr;exact⟨_,.c (.d (.sl ((spl 10 [] s).map encS))),S,σ',β,he,hS.grow hg,Keep.refl _ _,Step.mW hg,⟨hr,rfl⟩,rfl,rfl⟩
theorem adX(s:List UInt8)(hs:s.length<=1073741824):aH prog 54 [.c (.d (.s s)),.c (.d (.s [32]))] (.c (.d (.s (Lib.trimB s 32)))):=fun S=>by
 refine⟨⟨_,func54,by kernel_rfl,by kernel_rfl⟩,fun w σ β vs hS hv=> ?_⟩;obtain⟨hvl,hv⟩:=hv;obtain⟨u0,k0,r0⟩:=hv 0 _ rfl;obtain⟨u1,k1,r1⟩:=hv 1 _ rfl
 obtain rfl:vs=[u0,u1]:=by
  match vs,hvl,k0,k1 with
  |[a,b],_,k0,k1=>simp at k0 k1;rw[k0,k1]
 obtain rfl:u0=.string ⟨s.toArray⟩:=by cases r0.1;rfl
 obtain rfl:u1=.string ⟨#[32]⟩:=by cases r1.1;rfl
 have hsz:(⟨s.toArray⟩:ByteArray).size=s.length:=by simp[ByteArray.size]
 refine(Tryz.strings_Trim_one ⟨s.toArray⟩ 32 (by decide) w (by omega)).mono fun e w' ⟨he,hw⟩=> ?_
 have hg:Grow w σ w' σ:=by
  rcases hw with rfl|rfl
  ·exact Grow.refl hS.live
  ·exact⟨Nat.le_refl _,rfl,rfl,fun _ _=>⟨rfl,rfl⟩,hS.live⟩
 exact⟨_,.c (.d (.s (Lib.trimB s 32))),S,σ,β,he,hS.grow hg,Keep.refl _ _,Step.mW hg,⟨.s _,rfl⟩,rfl,rfl⟩
theorem YD(s:List UInt8)(hs:s.length<=1048576):aH prog 53 [.c (.d (.s s)),.c (.d (.i .u8 10))] (.c (.d (.sl ((spl 10 [] s).map encS)))):=fun S=>by
 refine zcx [.tmp 4] func53 ntmps53 ?_;refine W1 ?_;refine⟨fun y hy=>by rw[List.mem_singleton.1 hy],?_⟩;rw[show UInt8.ofNat 10=10 from rfl];exact C3 (aah s hs)
theorem aoy{s:List UInt8}{i a:Nat}(hi:i<s.length)(ha:a<=i):(s.take (i+1)).drop a=(s.take i).drop a++[s[i]]:=by
 rw[List.take_succ_eq_append_getElem hi,List.drop_append_of_le_length (by rw[List.length_take];omega)]
theorem Uc(out:List (List UInt8))(x:List UInt8):out.map encS++[[D.s x]]=(out++[x]).map encS:=by simp[encS]
theorem ag7(l:List aI)(p:aI):l.map aI.enc++[[.s p.fName,.sl (p.jv.map encS),.sl (p.dV.map bA.enc),.sl (p.aV.map aS.enc),.sl (p.dI.map aP.enc),.sl (p.cu.map aU.enc)]]=(l++[p]).map aI.enc:=by rw[List.map_append];rfl
theorem adY(l:List aI)(p:aI)(m:Nat):dO (l.map aI.enc) m++[[.s p.fName,.ol (m+iH (l.map aI.enc)) (p.jv.map encS),.ol (m+iH (l.map aI.enc)+1) (dO (p.dV.map bA.enc) (m+iH (l.map aI.enc)+1+1)),.ol (Av p (m+iH (l.map aI.enc))) (dO (p.aV.map aS.enc) (Av p (m+iH (l.map aI.enc))+1)),
 .ol (Aw p (m+iH (l.map aI.enc))) (dO (p.dI.map aP.enc) (Aw p (m+iH (l.map aI.enc))+1)),.ol (Cv p (m+iH (l.map aI.enc))) (dO (p.cu.map aU.enc) (Cv p (m+iH (l.map aI.enc))+1))]]=dO ((l++[p]).map aI.enc) m:=by
 rw[List.map_append,oF,<-IZ];rfl
theorem YE(s:List UInt8)(hs:s.length<=1073741824):aH prog 52 [.c (.d (.s s))] (.c (.d (.b (GV s)))):=fun S=>by
 refine zcx [.tmp 2] func52 ntmps52 ?_;refine W1 ?_
 refine aT (ι:=Nat) zmx rfl [0,3] (fun i=>[.c (.d (.s s)),.c (.d (.i .i64 i))]) (fun _=>[]::S)
  (fun i=>i<=s.length/\∀j,∀hj:j<s.length,j<i->s[j]=32) (fun i=>s.length-i) 0 rfl rfl ⟨Nat.zero_le _,fun j _ h=>by omega⟩ ?_
 rintro i ⟨p1,p2⟩;refine W1 ?_;refine S0 (fun hb h=>?_) fun hb h=>?_
 ·have hi:i<s.length:=by omega
  refine W3 ?_;refine S0 (fun hb h=>?_) fun hb h=>?_
  ·have:GV s=false:=Bool.eq_false_iff.2 fun e=>h (by
    have:=List.all_eq_true.1 e s[i] (List.getElem_mem hi)
    rw[show s.getD i 0=s[i] by simp[List.getD,hi],of_decide_eq_true this];rfl)
   rw[this]
  ·refine bF (i+1) (by omega) rfl rfl ⟨by omega,fun j hj hji=> ?_⟩;by_cases e:j=i
   ·subst e;rw[show s.getD j 0=s[j] by simp[List.getD,hi]] at h;exact UInt8.toNat_inj.1 (by rw[show(32:UInt8).toNat=32 from rfl];omega)
   ·exact p2 j hj (by omega)
 ·have:GV s=true:=List.all_eq_true.2 fun b hb=>by
   obtain⟨j,hj,rfl⟩:=List.mem_iff_getElem.1 hb;exact decide_eq_true (p2 j hj (by omega))
  rw[this]
theorem YF(s:List UInt8)(c:UInt8)(hs:s.length<=1048576):aH prog 51 [.c (.d (.s s)),.c (.d (.i .u8 c.toNat))] (.c (.d (.sl ((spl c [] s).map encS)))):=fun S=>by
 refine zcx [.tmp 4] func51 ntmps51 ?_;refine W1 ?_;refine ni 5 1 [] rfl (by simp) ?_
 refine aT (ι:=Nat×Nat×List (List UInt8)) zmx rfl [0,1,5,6,7] (fun y=>[.c (.d (.s s)),.c (.d (.i .u8 c.toNat)),.c (.bN (0,0) (y.2.2.map encS)),.c (.d (.i .i64 y.2.1)),.c (.d (.i .i64 y.1))]) (fun y=>[.tok 1 (y.2.2.map encS)]::S)
  (fun y=>y.2.1<=y.1/\y.2.2.length<=y.1/\((y.1<=s.length/\y.2.2++spl c ((s.take y.1).drop y.2.1) (s.drop y.1)=spl c [] s)\/(y.1=s.length+1/\y.2.2=spl c [] s))) (fun y=>s.length+1-y.1) (0,0,[]) rfl rfl ⟨Nat.le_refl _,Nat.le_refl _,.inl ⟨Nat.zero_le _,by simp⟩⟩ ?_
 rintro⟨i,fr,out⟩ ⟨p1,p2,p3⟩;simp only at p1 p2 p3
 have p4:i<=s.length+1:=by omega
 refine W1 ?_;refine S0 (fun hb h=>?_) fun hb h=>?_
 ·have h1:i<=s.length:=by omega
  have hq:out++spl c ((s.take i).drop fr) (s.drop i)=spl c [] s:=by
   rcases p3 with p3|p3
   ·exact p3.2
   ·omega
  refine S0 (fun hb h=>?_) fun hb h=>?_
  ·have hi:i=s.length:=by omega
   subst hi;rw[List.drop_length,spl] at hq;refine W3 ?_;rw[Uc];exact bF (s.length+1,s.length+1,out++[(s.take s.length).drop fr]) (by simp only;omega) rfl rfl ⟨Nat.le_refl _,by simp only[List.length_append,List.length_singleton];omega,.inr ⟨rfl,hq⟩⟩
  ·have hi:i<s.length:=by omega
   have hg:s.getD i 0=s[i]:=by simp[List.getD,hi]
   refine W3 ?_;refine S0 (fun hb h=>?_) fun hb h=>?_
   ·have hc:s[i]=c:=by
     rw[hg] at h;exact UInt8.toNat_inj.1 (by omega)
    rw[List.drop_eq_getElem_cons hi,spl,if_pos hc] at hq;refine W3 ?_;rw[Uc];refine bF (i+1,i+1,out++[(s.take i).drop fr]) (by simp only;omega) rfl rfl ⟨Nat.le_refl _,by simp only[List.length_append,List.length_singleton];omega,.inl ⟨by simp only;omega,?_⟩⟩
    ·simp only
     rw[show(s.take (i+1)).drop (i+1)=[] from List.drop_eq_nil_of_le (by rw[List.length_take];omega),<-hq,List.append_assoc];rfl
   ·have hc:s[i]≠c:=fun e=>h (by rw[hg,e]);rw[List.drop_eq_getElem_cons hi,spl,if_neg hc,<-aoy hi p1] at hq;exact bF (i+1,fr,out) (by simp only;omega) rfl rfl ⟨by simp only;omega,by simp only;omega,.inl ⟨by simp only;omega,hq⟩⟩
 ·rcases p3 with p3|p3
  ·omega
  ·rw[<-p3.2]
theorem UR(s:List UInt8)(hs:s.length<=1048576):aH prog 16 [.c (.d (.s s))] (.dL [(true,[.d (.sl ((K4 s).iN.map aI.enc))]),(false,[.d (.i .i64 (R4 s))])]):=aH.of_le fun S=>by
 have hl0:=LX 10 s [];unfold K4 R4;obtain⟨L,hL⟩:∃L,L=spl 10 [] s:=⟨_,rfl⟩;have hsp:=YF s 10 hs;rw[show(10:UInt8).toNat=10 from rfl] at hsp;rw[<-hL] at hsp hl0 ⊢;refine afV (rs:=[.cell 2 47,.tmp 3]) zmx func16 ntmps16 rfl rfl rfl rfl rfl ?_;refine W1 ?_;refine aX hsp ?_;refine W1 ?_;refine pE 1 0 6 _ rfl rfl ?_
 refine Xr (ι:=Nat×List aI) zmx rfl [2,4,5,6] (fun y=>[.c (.ptr (0,0) 0),.c (.ptr (0,1) 0),.c (.d (.sl (L.map encS))),.c (.d (.i .i64 y.1))])
  (fun y=>[.box [.bE []],.box [.bN (0,2) (y.2.map aI.enc)],.tok 6 (y.2.map aI.enc)]::S)
  (fun y=>y.1<=L.length/\y.2.length<=5/\rO (L.drop y.1) y.2=rO L []) (fun y=>L.length-y.1) (0,[]) rfl rfl ⟨Nat.zero_le _,by decide,rfl⟩ ?_
 rintro⟨i,acc⟩ ⟨p1,p2,p3⟩;simp only at p1 p2 p3;simp -implicitDefEqProofs (disch:=omega) only[go_sem,encS]
 with_reducible refine dD (fun hb=> ?_) (fun hb=> ?_)<;>have h:=hb<;>(try simp only[wf_preprocess] at h)<;>simp -implicitDefEqProofs (disch:=omega) only[go_sem,hb,encS]<;>refine W3 ?_
 ·have hi:i<L.length:=by omega
  have hll:L[i].length<=1048576:=by have:=hl0.2 L[i] (List.getElem_mem hi);simp only[List.length_nil] at this;omega
  rw[List.drop_eq_getElem_cons hi,rO] at p3;refine W3 ?_;refine aX (YE L[i] (by omega)) ?_;simp -implicitDefEqProofs (disch:=omega) only[go_sem,encS]
  with_reducible refine dD (fun hb=> ?_) (fun hb=> ?_)<;>have h:=hb<;>(try simp only[wf_preprocess] at h)<;>simp -implicitDefEqProofs (disch:=omega) only[go_sem,hb,encS]<;>refine W3 ?_
  ·rw[if_pos h] at p3;exact bF (i+1,acc) (by simp only;omega) rfl rfl ⟨by simp only;omega,p2,p3⟩
  rw[if_neg (by rw[h];decide)] at p3;refine W3 ?_;refine aX (UQ L[i] hll) ?_;simp -implicitDefEqProofs (disch:=omega) only[go_sem,aI.cv];refine S0 (fun hb h=>?_) fun hb h=>?_
  ·rw[if_neg (by rw[h];intro e;cases e.1)] at p3;refine W3 ?_;refine⟨by rfl,?_⟩;refine W1 ?_;rw[<-p3];exact(iw.cons (.cons (eU _) .nil) (.refl _)).less
  have hok:=h;refine S0 (fun hb h=>?_) fun hb h=>?_
  ·rw[if_neg (by intro e;exact e.2 (by omega))] at p3;refine W3 ?_;refine⟨by rfl,?_⟩;refine W1 ?_;rw[<-p3];exact(iw.cons (.cons (eU _) .nil) (.refl _)).less
  have h5:=h;rw[if_pos ⟨hok,by omega⟩] at p3;refine W3 ?_;rw[ag7];exact bX 3 (by decide) (i+1,acc++[Bj L[i]]) (by simp only;omega) rfl rfl rfl rfl ⟨by simp only;omega,by simp only[List.length_append,List.length_singleton];omega,p3⟩
 ·have hi:i=L.length:=by omega
  subst hi;rw[List.drop_length,rO] at p3;rw[<-p3];exact gy _
theorem R5(s:List UInt8)(n:Nat)(hs:s.length<=1048576):aH prog 17 [.c (.d (.s s))] (.dL [(true,[.d (.ol n (dO ((K4 s).iN.map aI.enc) (n+1)))]),(false,[.d (.i .i64 (R4 s))])]):=aH.of_le fun S=>by
 have hl0:=LX 10 s [];unfold K4 R4;obtain⟨L,hL⟩:∃L,L=spl 10 [] s:=⟨_,rfl⟩;have hsp:=YD s hs;rw[<-hL] at hsp hl0 ⊢;refine ac9 (n) (rs:=[.cell 2 47,.tmp 3]) zmx func17 ntmps17 rfl rfl rfl rfl rfl ?_;refine W1 ?_;refine aX hsp ?_;refine W1 ?_;refine oH n 2 0 6 _ rfl rfl ?_
 refine Xr (ι:=Nat×List aI) zmx rfl [2,4,11,12,13] (fun y=>[.c (.ptr (0,1) 0),.c (.ptr (0,2) 0),.c (.d (.sl (L.map encS))),.c (.d (.i .i64 L.length)),.c (.d (.i .i64 y.1))])
  (fun y=>[.seed n,.box [.bE []],.box [.bN (0,3) (dO (y.2.map aI.enc) (n+1))],.fu n 6 (dO (y.2.map aI.enc) (n+1))]::S)
  (fun y=>y.1<=L.length/\y.2.length<=5/\rO (L.drop y.1) y.2=rO L []) (fun y=>L.length-y.1) (0,[]) rfl rfl ⟨Nat.zero_le _,by decide,rfl⟩ ?_
 rintro⟨i,acc⟩ ⟨p1,p2,p3⟩;simp only at p1 p2 p3
 have p4:(dO (acc.map aI.enc) (n+1)).length=acc.length:=by rw[jV,List.length_map]
 simp -implicitDefEqProofs (disch:=omega) only[go_sem,encS]
 with_reducible refine dD (fun hb=> ?_) (fun hb=> ?_)<;>have h:=hb<;>(try simp only[wf_preprocess] at h)<;>simp -implicitDefEqProofs (disch:=omega) only[go_sem,hb,encS]<;>refine W3 ?_
 ·have hi:i<L.length:=by omega
  have hll:L[i].length<=1048576:=by have:=hl0.2 L[i] (List.getElem_mem hi);simp only[List.length_nil] at this;omega
  rw[List.drop_eq_getElem_cons hi,rO] at p3;refine W3 ?_;refine aX (adX L[i] (by omega)) ?_;simp -implicitDefEqProofs (disch:=omega) only[go_sem,encS]
  with_reducible refine dD (fun hb=> ?_) (fun hb=> ?_)<;>have h:=hb<;>(try simp only[wf_preprocess] at h)<;>simp -implicitDefEqProofs (disch:=omega) only[go_sem,hb,encS]<;>refine W3 ?_
  ·rw[if_pos ((QC _).1 h)] at p3;exact bF (i+1,acc) (by simp only;omega) rfl rfl ⟨by simp only;omega,p2,p3⟩
  rw[if_neg (fun e=>h ((QC _).2 e))] at p3;refine W3 ?_;have hc:=QB L[i] (n+1+iH (acc.map aI.enc)) hll;rw[I5] at hc;refine aX hc ?_;refine W1 ?_;refine S0 (fun hb h=>?_) fun hb h=>?_
  ·rw[if_neg (by rw[h];intro e;cases e.1)] at p3;refine W3 ?_;refine⟨by rfl,?_⟩;refine W1 ?_;rw[<-p3,p4];exact(iw.cons (.cons (dR _) .nil) (.refl _)).less
  have hok:=h;refine S0 (fun hb h=>?_) fun hb h=>?_
  ·rw[if_neg (by intro e;exact e.2 (by omega))] at p3;refine W3 ?_;refine⟨by rfl,?_⟩;refine W1 ?_;rw[<-p3,p4];exact(iw.cons (.cons (dR _) .nil) (.refl _)).less
  have h5:=h;rw[if_pos ⟨hok,by omega⟩] at p3;refine W3 ?_;rw[adY];exact bX 4 (by decide) (i+1,acc++[Bj L[i]]) (by simp only;omega) rfl rfl rfl rfl ⟨by simp only;omega,by simp only[List.length_append,List.length_singleton];omega,p3⟩
 ·have hi:i=L.length:=by omega
  subst hi;rw[List.drop_length,rO] at p3;rw[<-p3];exact gy _
theorem QD(s:List UInt8)(n:Nat)(hs:s.length<=1048576):aH prog 17 [.c (.d (.s s))] (.dL [(true,(eT (K4 s).enc n).map .d),(false,[.d (.i .i64 (R4 s))])]):=by
 have:(eT (K4 s).enc n).map C.d=[.d (.ol n (dO ((K4 s).iN.map aI.enc) (n+1)))]:=by simp only[dU.aA,eT,nL,List.map_cons,List.map_nil]
 rw[this];exact R5 s n hs
theorem nU(xs:List (List UInt8)):sO prog 41 (xs.map encS):=by
 intro k l j r p S rs hS hp hk;have hlen:=jD (f:=encS) (fun x=>by simp only[encS,List.cons_append,List.nil_append,iF,iV];omega) xs;obtain⟨rows,hr,hl⟩:∃rows,rows=xs.map encS/\rows.length=xs.length:=⟨_,rfl,List.length_map _⟩;rw[<-hr] at hp hk hlen ⊢;obtain⟨ht,hA,hU⟩:=tO hS hp;refine zcx [.tmp 4] func41 ntmps41 ?_;refine W1 ?_;refine mP zmx rfl hS hp hl rfl rfl fun i hi K gN=> ?_;simp -implicitDefEqProofs (disch:=omega) only[go_sem,ht,hA,iK,hl]
 with_reducible refine dD (fun hb=> ?_) (fun hb=> ?_)<;>have h:=hb<;>try simp only[wf_preprocess] at h
 ·have hi:i<xs.length:=by omega
  obtain⟨x,hx,hir,hK,hle,e2,hC,hG,h3⟩:=kG hr hi gN;simp only[encS,List.cons_append,List.nil_append,iF,iV,lH,lI,lJ,lK,lN] at hK hle e2 h3;simp -implicitDefEqProofs (disch:=omega) only[go_sem,hb,ht,hA,hU,e2,hC,hG,gQ,fE,hl,bH,gK]
  repeat(refine W3 ?_;refine aX (fF _ (by omega)) ?_;simp -implicitDefEqProofs (disch:=omega) only[go_sem,hb,ht,hA,hU,e2,hC,hG,gQ,fE,hl,bH,gK])
  refine W3 ?_;exact bF (i+1) (by omega) (lQ (by omega)) (by rw[<-h3]<;>rfl) (by omega)
 ·simp -implicitDefEqProofs (disch:=omega) only[go_sem,hb]
  rw[oI (by omega),gN,List.take_of_length_le (by omega)]<;>first|rfl|exact⟨rfl,rfl⟩
theorem nV(xs:List (List UInt8)):tL prog 46 (xs.map encS):=by
 intro k l j r p S rs hS hp hk;have hlen:=jD (f:=encS) (fun x=>by simp only[encS,List.cons_append,List.nil_append,iF,iV];omega) xs;obtain⟨rows,hr,hl⟩:∃rows,rows=xs.map encS/\rows.length=xs.length:=⟨_,rfl,List.length_map _⟩;rw[<-hr] at hp hk hlen ⊢;refine zcx [.tmp 4] func46 ntmps46 ?_;refine W1 ?_;refine mQ zmx rfl hl rfl rfl fun i hi K gN=> ?_;simp -implicitDefEqProofs (disch:=omega) only[go_sem,hS,hp,cO,hl]
 with_reducible refine dD (fun hb=> ?_) (fun hb=> ?_)<;>have h:=hb<;>try simp only[wf_preprocess] at h
 ·have hi:i<xs.length:=by omega
  obtain⟨x,hx,hir,hK,hle,hC,hG⟩:=lq hr hi gN;simp only[encS,List.cons_append,List.nil_append,iF,iV,lH,lI,lJ,lK,lN] at hK hle hC hG;simp -implicitDefEqProofs (disch:=omega) only[go_sem,hb,hS,hp,hC,hG,cO,hl,gK]
  repeat(refine W3 ?_;refine aX (fF _ (by omega)) ?_;simp -implicitDefEqProofs (disch:=omega) only[go_sem,hb,hS,hp,hC,hG,cO,hl,gK])
  refine W3 ?_;exact bF (i+1) (by omega) (lQ (by omega)) rfl (by omega)
 ·simp -implicitDefEqProofs (disch:=omega) only[go_sem,hb]
  rw[gN,List.take_of_length_le (by omega)]<;>first|rfl|exact⟨rfl,rfl⟩
theorem K6:∀n:Nat,(∀xs:List ak,SizeOf.sizeOf xs<n->sO prog 73 (xs.map ak.enc))
 |0=>fun xs h=>by omega
 |n+1=>by
  have J8:=K6 n;refine fun xs hn k l j r p S rs hS hp hk=> ?_
  ·have hlen:=jD (f:=ak.enc) (fun x=>by simp only[ak.aA,encS,encI,List.cons_append,List.nil_append,iF,iV];omega) xs;obtain⟨rows,hr,hl⟩:∃rows,rows=xs.map ak.enc/\rows.length=xs.length:=⟨_,rfl,List.length_map _⟩;rw[<-hr] at hp hk hlen ⊢;obtain⟨ht,hA,hU⟩:=tO hS hp;refine zcx [.tmp 4] func73 ntmps73 ?_;refine W1 ?_;refine mP zmx rfl hS hp hl rfl rfl fun i hi K gN=> ?_;simp -implicitDefEqProofs (disch:=omega) only[go_sem,ht,hA,iK,hl]
   with_reducible refine dD (fun hb=> ?_) (fun hb=> ?_)<;>have h:=hb<;>try simp only[wf_preprocess] at h
   ·have hi:i<xs.length:=by omega
    obtain⟨x,hx,hir,hK,hle,e2,hC,hG,h3⟩:=kG hr hi gN;simp only[ak.aA,encS,encI,List.cons_append,List.nil_append,iF,iV,lH,lI,lJ,lK,lN] at hK hle e2 h3;simp -implicitDefEqProofs (disch:=omega) only[go_sem,hb,ht,hA,hU,e2,hC,hG,gQ,fE,hl,bH,gK]
    repeat(refine W3 ?_;(first
     |refine aX (fF _ (by omega)) ?_
     |refine bg rfl (eP hS hp hir (by rfl) (J8 x.fArgs (by have:=List.sizeOf_lt_of_mem (List.getElem_mem hi);rw[<-hx] at this;have:=ak.gT x;omega)) (by omega)) ?_);simp -implicitDefEqProofs (disch:=omega) only[go_sem,hb,ht,hA,hU,e2,hC,hG,gQ,fE,hl,bH,gK])
    refine W3 ?_;exact bF (i+1) (by omega) (lQ (by omega)) (by rw[<-h3]<;>rfl) (by omega)
   ·simp -implicitDefEqProofs (disch:=omega) only[go_sem,hb]
    rw[oI (by omega),gN,List.take_of_length_le (by omega)]<;>first|rfl|exact⟨rfl,rfl⟩
theorem jX(xs:List ak):sO prog 73 (xs.map ak.enc):=(K6 _) xs (Nat.lt_succ_self _)
theorem K7:∀n:Nat,(∀xs:List ak,SizeOf.sizeOf xs<n->tL prog 75 (xs.map ak.enc))
 |0=>fun xs h=>by omega
 |n+1=>by
  have J8:=K7 n;refine fun xs hn k l j r p S rs hS hp hk=> ?_
  ·have hlen:=jD (f:=ak.enc) (fun x=>by simp only[ak.aA,encS,encI,List.cons_append,List.nil_append,iF,iV];omega) xs;obtain⟨rows,hr,hl⟩:∃rows,rows=xs.map ak.enc/\rows.length=xs.length:=⟨_,rfl,List.length_map _⟩;rw[<-hr] at hp hk hlen ⊢;refine zcx [.tmp 4] func75 ntmps75 ?_;refine W1 ?_;refine mQ zmx rfl hl rfl rfl fun i hi K gN=> ?_;simp -implicitDefEqProofs (disch:=omega) only[go_sem,hS,hp,cO,hl]
   with_reducible refine dD (fun hb=> ?_) (fun hb=> ?_)<;>have h:=hb<;>try simp only[wf_preprocess] at h
   ·have hi:i<xs.length:=by omega
    obtain⟨x,hx,hir,hK,hle,hC,hG⟩:=lq hr hi gN;simp only[ak.aA,encS,encI,List.cons_append,List.nil_append,iF,iV,lH,lI,lJ,lK,lN] at hK hle hC hG;simp -implicitDefEqProofs (disch:=omega) only[go_sem,hb,hS,hp,hC,hG,cO,hl,gK]
    repeat(refine W3 ?_;(first
     |refine aX (fF _ (by omega)) ?_
     |refine bg rfl (J8 x.fArgs (by have:=List.sizeOf_lt_of_mem (List.getElem_mem hi);rw[<-hx] at this;have:=ak.gT x;omega) _ (1+l) j r _ _ _ (by rw[bM];exact hS) (eO hp (by rw[hC];rfl)) (by omega)) ?_);simp -implicitDefEqProofs (disch:=omega) only[go_sem,hb,hS,hp,hC,hG,cO,hl,gK,oW])
    refine W3 ?_;exact bF (i+1) (by omega) (lQ (by omega)) rfl (by omega)
   ·simp -implicitDefEqProofs (disch:=omega) only[go_sem,hb]
    rw[gN,List.take_of_length_le (by omega)]<;>first|rfl|exact⟨rfl,rfl⟩
theorem jY(xs:List ak):tL prog 75 (xs.map ak.enc):=(K7 _) xs (Nat.lt_succ_self _)
theorem Jr(xs:List bn):sO prog 90 (xs.map bn.enc):=by
 intro k l j r p S rs hS hp hk;have hlen:=jD (f:=bn.enc) (fun x=>by simp only[bn.aA,ak.aA,encS,encI,List.cons_append,List.nil_append,iF,iV];omega) xs;obtain⟨rows,hr,hl⟩:∃rows,rows=xs.map bn.enc/\rows.length=xs.length:=⟨_,rfl,List.length_map _⟩;rw[<-hr] at hp hk hlen ⊢;obtain⟨ht,hA,hU⟩:=tO hS hp;refine zcx [.tmp 4] func90 ntmps90 ?_;refine W1 ?_;refine mP zmx rfl hS hp hl rfl rfl fun i hi K gN=> ?_;simp -implicitDefEqProofs (disch:=omega) only[go_sem,ht,hA,iK,hl]
 with_reducible refine dD (fun hb=> ?_) (fun hb=> ?_)<;>have h:=hb<;>try simp only[wf_preprocess] at h
 ·have hi:i<xs.length:=by omega
  obtain⟨x,hx,hir,hK,hle,e2,hC,hG,h3⟩:=kG hr hi gN;simp only[bn.aA,ak.aA,encS,encI,List.cons_append,List.nil_append,iF,iV,lH,lI,lJ,lK,lN] at hK hle e2 h3;simp -implicitDefEqProofs (disch:=omega) only[go_sem,hb,ht,hA,hU,e2,hC,hG,gQ,fE,hl,bH,gK]
  repeat(refine W3 ?_;(first
   |refine aX (fF _ (by omega)) ?_
   |refine bg rfl (eP hS hp hir (by rfl) (jX x.fType.fArgs) (by omega)) ?_);simp -implicitDefEqProofs (disch:=omega) only[go_sem,hb,ht,hA,hU,e2,hC,hG,gQ,fE,hl,bH,gK])
  refine W3 ?_;exact bF (i+1) (by omega) (lQ (by omega)) (by rw[<-h3]<;>rfl) (by omega)
 ·simp -implicitDefEqProofs (disch:=omega) only[go_sem,hb]
  rw[oI (by omega),gN,List.take_of_length_le (by omega)]<;>first|rfl|exact⟨rfl,rfl⟩
theorem Js(xs:List bn):tL prog 95 (xs.map bn.enc):=by
 intro k l j r p S rs hS hp hk;have hlen:=jD (f:=bn.enc) (fun x=>by simp only[bn.aA,ak.aA,encS,encI,List.cons_append,List.nil_append,iF,iV];omega) xs;obtain⟨rows,hr,hl⟩:∃rows,rows=xs.map bn.enc/\rows.length=xs.length:=⟨_,rfl,List.length_map _⟩;rw[<-hr] at hp hk hlen ⊢;refine zcx [.tmp 4] func95 ntmps95 ?_;refine W1 ?_;refine mQ zmx rfl hl rfl rfl fun i hi K gN=> ?_;simp -implicitDefEqProofs (disch:=omega) only[go_sem,hS,hp,cO,hl]
 with_reducible refine dD (fun hb=> ?_) (fun hb=> ?_)<;>have h:=hb<;>try simp only[wf_preprocess] at h
 ·have hi:i<xs.length:=by omega
  obtain⟨x,hx,hir,hK,hle,hC,hG⟩:=lq hr hi gN;simp only[bn.aA,ak.aA,encS,encI,List.cons_append,List.nil_append,iF,iV,lH,lI,lJ,lK,lN] at hK hle hC hG;simp -implicitDefEqProofs (disch:=omega) only[go_sem,hb,hS,hp,hC,hG,cO,hl,gK]
  repeat(refine W3 ?_;(first
   |refine aX (fF _ (by omega)) ?_
   |refine bg rfl (jY x.fType.fArgs _ (1+l) j r _ _ _ (by rw[bM];exact hS) (eO hp (by rw[hC];rfl)) (by omega)) ?_);simp -implicitDefEqProofs (disch:=omega) only[go_sem,hb,hS,hp,hC,hG,cO,hl,gK,oW])
  refine W3 ?_;exact bF (i+1) (by omega) (lQ (by omega)) rfl (by omega)
 ·simp -implicitDefEqProofs (disch:=omega) only[go_sem,hb]
  rw[gN,List.take_of_length_le (by omega)]<;>first|rfl|exact⟨rfl,rfl⟩
theorem EJ:∀n:Nat,(∀xs:List au,SizeOf.sizeOf xs<n->sO prog 29 (xs.map au.enc))/\
 (∀xs:List aR,SizeOf.sizeOf xs<n->sO prog 30 (xs.map aR.enc))
 |0=>⟨fun xs h=>by omega,fun xs h=>by omega⟩
 |n+1=>by
  obtain⟨Ch,Ii⟩:=EJ n;refine⟨fun xs hn k l j r p S rs hS hp hk=> ?_,fun xs hn k l j r p S rs hS hp hk=> ?_⟩
  ·have hlen:=jD (f:=au.enc) (fun x=>by simp only[au.aA,ak.aA,encS,encI,List.cons_append,List.nil_append,iF,iV];omega) xs;obtain⟨rows,hr,hl⟩:∃rows,rows=xs.map au.enc/\rows.length=xs.length:=⟨_,rfl,List.length_map _⟩;rw[<-hr] at hp hk hlen ⊢;obtain⟨ht,hA,hU⟩:=tO hS hp;refine zcx [.tmp 4] func29 ntmps29 ?_;refine W1 ?_;refine mP zmx rfl hS hp hl rfl rfl fun i hi K gN=> ?_;simp -implicitDefEqProofs (disch:=omega) only[go_sem,ht,hA,iK,hl]
   with_reducible refine dD (fun hb=> ?_) (fun hb=> ?_)<;>have h:=hb<;>try simp only[wf_preprocess] at h
   ·have hi:i<xs.length:=by omega
    obtain⟨x,hx,hir,hK,hle,e2,hC,hG,h3⟩:=kG hr hi gN;simp only[au.aA,ak.aA,encS,encI,List.cons_append,List.nil_append,iF,iV,lH,lI,lJ,lK,lN] at hK hle e2 h3;simp -implicitDefEqProofs (disch:=omega) only[go_sem,hb,ht,hA,hU,e2,hC,hG,gQ,fE,hl,bH,gK]
    repeat(refine W3 ?_;(first
     |refine aX (fF _ (by omega)) ?_
     |refine bg rfl (eP hS hp hir (by rfl) (jX x.fType.fArgs) (by omega)) ?_
     |refine bg rfl (eP hS hp hir (by rfl) (Ch x.fArgs (by have:=List.sizeOf_lt_of_mem (List.getElem_mem hi);rw[<-hx] at this;have:=au.gT x;omega)) (by omega)) ?_
     |refine bg rfl (eP hS hp hir (by rfl) (Ii x.aQ (by have:=List.sizeOf_lt_of_mem (List.getElem_mem hi);rw[<-hx] at this;have:=au.qb x;omega)) (by omega)) ?_);simp -implicitDefEqProofs (disch:=omega) only[go_sem,hb,ht,hA,hU,e2,hC,hG,gQ,fE,hl,bH,gK])
    refine W3 ?_;exact bF (i+1) (by omega) (lQ (by omega)) (by rw[<-h3]<;>rfl) (by omega)
   ·simp -implicitDefEqProofs (disch:=omega) only[go_sem,hb]
    rw[oI (by omega),gN,List.take_of_length_le (by omega)]<;>first|rfl|exact⟨rfl,rfl⟩
  ·have hlen:=jD (f:=aR.enc) (fun x=>by simp only[aR.aA,au.aA,ak.aA,encS,encI,List.cons_append,List.nil_append,iF,iV];omega) xs;obtain⟨rows,hr,hl⟩:∃rows,rows=xs.map aR.enc/\rows.length=xs.length:=⟨_,rfl,List.length_map _⟩;rw[<-hr] at hp hk hlen ⊢;obtain⟨ht,hA,hU⟩:=tO hS hp;refine zcx [.tmp 4] func30 ntmps30 ?_;refine W1 ?_;refine mP zmx rfl hS hp hl rfl rfl fun i hi K gN=> ?_;simp -implicitDefEqProofs (disch:=omega) only[go_sem,ht,hA,iK,hl]
   with_reducible refine dD (fun hb=> ?_) (fun hb=> ?_)<;>have h:=hb<;>try simp only[wf_preprocess] at h
   ·have hi:i<xs.length:=by omega
    obtain⟨x,hx,hir,hK,hle,e2,hC,hG,h3⟩:=kG hr hi gN;simp only[aR.aA,au.aA,ak.aA,encS,encI,List.cons_append,List.nil_append,iF,iV,lH,lI,lJ,lK,lN] at hK hle e2 h3;simp -implicitDefEqProofs (disch:=omega) only[go_sem,hb,ht,hA,hU,e2,hC,hG,gQ,fE,hl,bH,gK]
    repeat(refine W3 ?_;(first
     |refine aX (fF _ (by omega)) ?_
     |refine bg rfl (eP hS hp hir (by rfl) (nU x.aG) (by omega)) ?_
     |refine bg rfl (eP hS hp hir (by rfl) (jX x.fBody.fType.fArgs) (by omega)) ?_
     |refine bg rfl (eP hS hp hir (by rfl) (Ch x.fBody.fArgs (by have:=List.sizeOf_lt_of_mem (List.getElem_mem hi);rw[<-hx] at this;have:=aR.oU x;have:=au.gT x.fBody;omega)) (by omega)) ?_
     |refine bg rfl (eP hS hp hir (by rfl) (Ii x.fBody.aQ (by have:=List.sizeOf_lt_of_mem (List.getElem_mem hi);rw[<-hx] at this;have:=aR.oU x;have:=au.qb x.fBody;omega)) (by omega)) ?_);simp -implicitDefEqProofs (disch:=omega) only[go_sem,hb,ht,hA,hU,e2,hC,hG,gQ,fE,hl,bH,gK])
    refine W3 ?_;exact bF (i+1) (by omega) (lQ (by omega)) (by rw[<-h3]<;>rfl) (by omega)
   ·simp -implicitDefEqProofs (disch:=omega) only[go_sem,hb]
    rw[oI (by omega),gN,List.take_of_length_le (by omega)]<;>first|rfl|exact⟨rfl,rfl⟩
theorem EK(xs:List au):sO prog 29 (xs.map au.enc):=(EJ _).1 xs (Nat.lt_succ_self _)
theorem FX(xs:List aR):sO prog 30 (xs.map aR.enc):=(EJ _).2 xs (Nat.lt_succ_self _)
theorem EL:∀n:Nat,(∀xs:List au,SizeOf.sizeOf xs<n->tL prog 32 (xs.map au.enc))/\
 (∀xs:List aR,SizeOf.sizeOf xs<n->tL prog 33 (xs.map aR.enc))
 |0=>⟨fun xs h=>by omega,fun xs h=>by omega⟩
 |n+1=>by
  obtain⟨Ch,Ii⟩:=EL n;refine⟨fun xs hn k l j r p S rs hS hp hk=> ?_,fun xs hn k l j r p S rs hS hp hk=> ?_⟩
  ·have hlen:=jD (f:=au.enc) (fun x=>by simp only[au.aA,ak.aA,encS,encI,List.cons_append,List.nil_append,iF,iV];omega) xs;obtain⟨rows,hr,hl⟩:∃rows,rows=xs.map au.enc/\rows.length=xs.length:=⟨_,rfl,List.length_map _⟩;rw[<-hr] at hp hk hlen ⊢;refine zcx [.tmp 4] func32 ntmps32 ?_;refine W1 ?_;refine mQ zmx rfl hl rfl rfl fun i hi K gN=> ?_;simp -implicitDefEqProofs (disch:=omega) only[go_sem,hS,hp,cO,hl]
   with_reducible refine dD (fun hb=> ?_) (fun hb=> ?_)<;>have h:=hb<;>try simp only[wf_preprocess] at h
   ·have hi:i<xs.length:=by omega
    obtain⟨x,hx,hir,hK,hle,hC,hG⟩:=lq hr hi gN;simp only[au.aA,ak.aA,encS,encI,List.cons_append,List.nil_append,iF,iV,lH,lI,lJ,lK,lN] at hK hle hC hG;simp -implicitDefEqProofs (disch:=omega) only[go_sem,hb,hS,hp,hC,hG,cO,hl,gK]
    repeat(refine W3 ?_;(first
     |refine aX (fF _ (by omega)) ?_
     |refine bg rfl (jY x.fType.fArgs _ (1+l) j r _ _ _ (by rw[bM];exact hS) (eO hp (by rw[hC];rfl)) (by omega)) ?_
     |refine bg rfl (Ch x.fArgs (by have:=List.sizeOf_lt_of_mem (List.getElem_mem hi);rw[<-hx] at this;have:=au.gT x;omega) _ (1+l) j r _ _ _ (by rw[bM];exact hS) (eO hp (by rw[hC];rfl)) (by omega)) ?_
     |refine bg rfl (Ii x.aQ (by have:=List.sizeOf_lt_of_mem (List.getElem_mem hi);rw[<-hx] at this;have:=au.qb x;omega) _ (1+l) j r _ _ _ (by rw[bM];exact hS) (eO hp (by rw[hC];rfl)) (by omega)) ?_);simp -implicitDefEqProofs (disch:=omega) only[go_sem,hb,hS,hp,hC,hG,cO,hl,gK,oW])
    refine W3 ?_;exact bF (i+1) (by omega) (lQ (by omega)) rfl (by omega)
   ·simp -implicitDefEqProofs (disch:=omega) only[go_sem,hb]
    rw[gN,List.take_of_length_le (by omega)]<;>first|rfl|exact⟨rfl,rfl⟩
  ·have hlen:=jD (f:=aR.enc) (fun x=>by simp only[aR.aA,au.aA,ak.aA,encS,encI,List.cons_append,List.nil_append,iF,iV];omega) xs;obtain⟨rows,hr,hl⟩:∃rows,rows=xs.map aR.enc/\rows.length=xs.length:=⟨_,rfl,List.length_map _⟩;rw[<-hr] at hp hk hlen ⊢;refine zcx [.tmp 4] func33 ntmps33 ?_;refine W1 ?_;refine mQ zmx rfl hl rfl rfl fun i hi K gN=> ?_;simp -implicitDefEqProofs (disch:=omega) only[go_sem,hS,hp,cO,hl]
   with_reducible refine dD (fun hb=> ?_) (fun hb=> ?_)<;>have h:=hb<;>try simp only[wf_preprocess] at h
   ·have hi:i<xs.length:=by omega
    obtain⟨x,hx,hir,hK,hle,hC,hG⟩:=lq hr hi gN;simp only[aR.aA,au.aA,ak.aA,encS,encI,List.cons_append,List.nil_append,iF,iV,lH,lI,lJ,lK,lN] at hK hle hC hG;simp -implicitDefEqProofs (disch:=omega) only[go_sem,hb,hS,hp,hC,hG,cO,hl,gK]
    repeat(refine W3 ?_;(first
     |refine aX (fF _ (by omega)) ?_
     |refine bg rfl (nV x.aG _ (1+l) j r _ _ _ (by rw[bM];exact hS) (eO hp (by rw[hC];rfl)) (by omega)) ?_
     |refine bg rfl (jY x.fBody.fType.fArgs _ (1+l) j r _ _ _ (by rw[bM];exact hS) (eO hp (by rw[hC];rfl)) (by omega)) ?_
     |refine bg rfl (Ch x.fBody.fArgs (by have:=List.sizeOf_lt_of_mem (List.getElem_mem hi);rw[<-hx] at this;have:=aR.oU x;have:=au.gT x.fBody;omega) _ (1+l) j r _ _ _ (by rw[bM];exact hS) (eO hp (by rw[hC];rfl)) (by omega)) ?_
     |refine bg rfl (Ii x.fBody.aQ (by have:=List.sizeOf_lt_of_mem (List.getElem_mem hi);rw[<-hx] at this;have:=aR.oU x;have:=au.qb x.fBody;omega) _ (1+l) j r _ _ _ (by rw[bM];exact hS) (eO hp (by rw[hC];rfl)) (by omega)) ?_);simp -implicitDefEqProofs (disch:=omega) only[go_sem,hb,hS,hp,hC,hG,cO,hl,gK,oW])
    refine W3 ?_;exact bF (i+1) (by omega) (lQ (by omega)) rfl (by omega)
   ·simp -implicitDefEqProofs (disch:=omega) only[go_sem,hb]
    rw[gN,List.take_of_length_le (by omega)]<;>first|rfl|exact⟨rfl,rfl⟩
theorem EM(xs:List au):tL prog 32 (xs.map au.enc):=(EL _).1 xs (Nat.lt_succ_self _)
theorem FY(xs:List aR):tL prog 33 (xs.map aR.enc):=(EL _).2 xs (Nat.lt_succ_self _)
theorem Mf(xs:List aM):sO prog 88 (xs.map aM.enc):=by
 intro k l j r p S rs hS hp hk;have hlen:=jD (f:=aM.enc) (fun x=>by simp only[au.aA,aM.aA,ak.aA,encS,encI,List.cons_append,List.nil_append,iF,iV];omega) xs;obtain⟨rows,hr,hl⟩:∃rows,rows=xs.map aM.enc/\rows.length=xs.length:=⟨_,rfl,List.length_map _⟩;rw[<-hr] at hp hk hlen ⊢;obtain⟨ht,hA,hU⟩:=tO hS hp;refine zcx [.tmp 4] func88 ntmps88 ?_;refine W1 ?_;refine mP zmx rfl hS hp hl rfl rfl fun i hi K gN=> ?_;simp -implicitDefEqProofs (disch:=omega) only[go_sem,ht,hA,iK,hl]
 with_reducible refine dD (fun hb=> ?_) (fun hb=> ?_)<;>have h:=hb<;>try simp only[wf_preprocess] at h
 ·have hi:i<xs.length:=by omega
  obtain⟨x,hx,hir,hK,hle,e2,hC,hG,h3⟩:=kG hr hi gN;simp only[au.aA,aM.aA,ak.aA,encS,encI,List.cons_append,List.nil_append,iF,iV,lH,lI,lJ,lK,lN] at hK hle e2 h3;simp -implicitDefEqProofs (disch:=omega) only[go_sem,hb,ht,hA,hU,e2,hC,hG,gQ,fE,hl,bH,gK]
  repeat(refine W3 ?_;(first
   |refine aX (fF _ (by omega)) ?_
   |refine bg rfl (eP hS hp hir (by rfl) (jX x.aW) (by omega)) ?_
   |refine bg rfl (eP hS hp hir (by rfl) (jX x.bP.fArgs) (by omega)) ?_
   |refine bg rfl (eP hS hp hir (by rfl) (nU x.aG) (by omega)) ?_
   |refine bg rfl (eP hS hp hir (by rfl) (jX x.fBody.fType.fArgs) (by omega)) ?_
   |refine bg rfl (eP hS hp hir (by rfl) (EK x.fBody.fArgs) (by omega)) ?_
   |refine bg rfl (eP hS hp hir (by rfl) (FX x.fBody.aQ) (by omega)) ?_);simp -implicitDefEqProofs (disch:=omega) only[go_sem,hb,ht,hA,hU,e2,hC,hG,gQ,fE,hl,bH,gK])
  refine W3 ?_;exact bF (i+1) (by omega) (lQ (by omega)) (by rw[<-h3]<;>rfl) (by omega)
 ·simp -implicitDefEqProofs (disch:=omega) only[go_sem,hb]
  rw[oI (by omega),gN,List.take_of_length_le (by omega)]<;>first|rfl|exact⟨rfl,rfl⟩
theorem Mg(xs:List aM):tL prog 93 (xs.map aM.enc):=by
 intro k l j r p S rs hS hp hk;have hlen:=jD (f:=aM.enc) (fun x=>by simp only[au.aA,aM.aA,ak.aA,encS,encI,List.cons_append,List.nil_append,iF,iV];omega) xs;obtain⟨rows,hr,hl⟩:∃rows,rows=xs.map aM.enc/\rows.length=xs.length:=⟨_,rfl,List.length_map _⟩;rw[<-hr] at hp hk hlen ⊢;refine zcx [.tmp 4] func93 ntmps93 ?_;refine W1 ?_;refine mQ zmx rfl hl rfl rfl fun i hi K gN=> ?_;simp -implicitDefEqProofs (disch:=omega) only[go_sem,hS,hp,cO,hl]
 with_reducible refine dD (fun hb=> ?_) (fun hb=> ?_)<;>have h:=hb<;>try simp only[wf_preprocess] at h
 ·have hi:i<xs.length:=by omega
  obtain⟨x,hx,hir,hK,hle,hC,hG⟩:=lq hr hi gN;simp only[au.aA,aM.aA,ak.aA,encS,encI,List.cons_append,List.nil_append,iF,iV,lH,lI,lJ,lK,lN] at hK hle hC hG;simp -implicitDefEqProofs (disch:=omega) only[go_sem,hb,hS,hp,hC,hG,cO,hl,gK]
  repeat(refine W3 ?_;(first
   |refine aX (fF _ (by omega)) ?_
   |refine bg rfl (jY x.aW _ (1+l) j r _ _ _ (by rw[bM];exact hS) (eO hp (by rw[hC];rfl)) (by omega)) ?_
   |refine bg rfl (jY x.bP.fArgs _ (1+l) j r _ _ _ (by rw[bM];exact hS) (eO hp (by rw[hC];rfl)) (by omega)) ?_
   |refine bg rfl (nV x.aG _ (1+l) j r _ _ _ (by rw[bM];exact hS) (eO hp (by rw[hC];rfl)) (by omega)) ?_
   |refine bg rfl (jY x.fBody.fType.fArgs _ (1+l) j r _ _ _ (by rw[bM];exact hS) (eO hp (by rw[hC];rfl)) (by omega)) ?_
   |refine bg rfl (EM x.fBody.fArgs _ (1+l) j r _ _ _ (by rw[bM];exact hS) (eO hp (by rw[hC];rfl)) (by omega)) ?_
   |refine bg rfl (FY x.fBody.aQ _ (1+l) j r _ _ _ (by rw[bM];exact hS) (eO hp (by rw[hC];rfl)) (by omega)) ?_);simp -implicitDefEqProofs (disch:=omega) only[go_sem,hb,hS,hp,hC,hG,cO,hl,gK,oW])
  refine W3 ?_;exact bF (i+1) (by omega) (lQ (by omega)) rfl (by omega)
 ·simp -implicitDefEqProofs (disch:=omega) only[go_sem,hb]
  rw[gN,List.take_of_length_le (by omega)]<;>first|rfl|exact⟨rfl,rfl⟩
theorem UU(xs:List bA):sO prog 42 (xs.map bA.enc):=by
 intro k l j r p S rs hS hp hk;have hlen:=jD (f:=bA.enc) (fun x=>by simp only[bA.aA,encS,encI,List.cons_append,List.nil_append,iF,iV];omega) xs;obtain⟨rows,hr,hl⟩:∃rows,rows=xs.map bA.enc/\rows.length=xs.length:=⟨_,rfl,List.length_map _⟩;rw[<-hr] at hp hk hlen ⊢;obtain⟨ht,hA,hU⟩:=tO hS hp;refine zcx [.tmp 4] func42 ntmps42 ?_;refine W1 ?_;refine mP zmx rfl hS hp hl rfl rfl fun i hi K gN=> ?_;simp -implicitDefEqProofs (disch:=omega) only[go_sem,ht,hA,iK,hl]
 with_reducible refine dD (fun hb=> ?_) (fun hb=> ?_)<;>have h:=hb<;>try simp only[wf_preprocess] at h
 ·have hi:i<xs.length:=by omega
  obtain⟨x,hx,hir,hK,hle,e2,hC,hG,h3⟩:=kG hr hi gN;simp only[bA.aA,encS,encI,List.cons_append,List.nil_append,iF,iV,lH,lI,lJ,lK,lN] at hK hle e2 h3;simp -implicitDefEqProofs (disch:=omega) only[go_sem,hb,ht,hA,hU,e2,hC,hG,gQ,fE,hl,bH,gK]
  repeat(refine W3 ?_;(first
   |refine aX (fF _ (by omega)) ?_
   |refine bg rfl (eP hS hp hir (by rfl) (nU x.bI) (by omega)) ?_
   |refine bg rfl (eP hS hp hir (by rfl) (Mf x.aD) (by omega)) ?_);simp -implicitDefEqProofs (disch:=omega) only[go_sem,hb,ht,hA,hU,e2,hC,hG,gQ,fE,hl,bH,gK])
  refine W3 ?_;exact bF (i+1) (by omega) (lQ (by omega)) (by rw[<-h3]<;>rfl) (by omega)
 ·simp -implicitDefEqProofs (disch:=omega) only[go_sem,hb]
  rw[oI (by omega),gN,List.take_of_length_le (by omega)]<;>first|rfl|exact⟨rfl,rfl⟩
theorem UW(xs:List bA):tL prog 47 (xs.map bA.enc):=by
 intro k l j r p S rs hS hp hk;have hlen:=jD (f:=bA.enc) (fun x=>by simp only[bA.aA,encS,encI,List.cons_append,List.nil_append,iF,iV];omega) xs;obtain⟨rows,hr,hl⟩:∃rows,rows=xs.map bA.enc/\rows.length=xs.length:=⟨_,rfl,List.length_map _⟩;rw[<-hr] at hp hk hlen ⊢;refine zcx [.tmp 4] func47 ntmps47 ?_;refine W1 ?_;refine mQ zmx rfl hl rfl rfl fun i hi K gN=> ?_;simp -implicitDefEqProofs (disch:=omega) only[go_sem,hS,hp,cO,hl]
 with_reducible refine dD (fun hb=> ?_) (fun hb=> ?_)<;>have h:=hb<;>try simp only[wf_preprocess] at h
 ·have hi:i<xs.length:=by omega
  obtain⟨x,hx,hir,hK,hle,hC,hG⟩:=lq hr hi gN;simp only[bA.aA,encS,encI,List.cons_append,List.nil_append,iF,iV,lH,lI,lJ,lK,lN] at hK hle hC hG;simp -implicitDefEqProofs (disch:=omega) only[go_sem,hb,hS,hp,hC,hG,cO,hl,gK]
  repeat(refine W3 ?_;(first
   |refine aX (fF _ (by omega)) ?_
   |refine bg rfl (nV x.bI _ (1+l) j r _ _ _ (by rw[bM];exact hS) (eO hp (by rw[hC];rfl)) (by omega)) ?_
   |refine bg rfl (Mg x.aD _ (1+l) j r _ _ _ (by rw[bM];exact hS) (eO hp (by rw[hC];rfl)) (by omega)) ?_);simp -implicitDefEqProofs (disch:=omega) only[go_sem,hb,hS,hp,hC,hG,cO,hl,gK,oW])
  refine W3 ?_;exact bF (i+1) (by omega) (lQ (by omega)) rfl (by omega)
 ·simp -implicitDefEqProofs (disch:=omega) only[go_sem,hb]
  rw[gN,List.take_of_length_le (by omega)]<;>first|rfl|exact⟨rfl,rfl⟩
theorem Jw(xs:List aL):sO prog 89 (xs.map aL.enc):=by
 intro k l j r p S rs hS hp hk;have hlen:=jD (f:=aL.enc) (fun x=>by simp only[aL.aA,encS,encI,List.cons_append,List.nil_append,iF,iV];omega) xs;obtain⟨rows,hr,hl⟩:∃rows,rows=xs.map aL.enc/\rows.length=xs.length:=⟨_,rfl,List.length_map _⟩;rw[<-hr] at hp hk hlen ⊢;obtain⟨ht,hA,hU⟩:=tO hS hp;refine zcx [.tmp 4] func89 ntmps89 ?_;refine W1 ?_;refine mP zmx rfl hS hp hl rfl rfl fun i hi K gN=> ?_;simp -implicitDefEqProofs (disch:=omega) only[go_sem,ht,hA,iK,hl]
 with_reducible refine dD (fun hb=> ?_) (fun hb=> ?_)<;>have h:=hb<;>try simp only[wf_preprocess] at h
 ·have hi:i<xs.length:=by omega
  obtain⟨x,hx,hir,hK,hle,e2,hC,hG,h3⟩:=kG hr hi gN;simp only[aL.aA,encS,encI,List.cons_append,List.nil_append,iF,iV,lH,lI,lJ,lK,lN] at hK hle e2 h3;simp -implicitDefEqProofs (disch:=omega) only[go_sem,hb,ht,hA,hU,e2,hC,hG,gQ,fE,hl,bH,gK]
  repeat(refine W3 ?_;(first
   |refine aX (fF _ (by omega)) ?_
   |refine bg rfl (eP hS hp hir (by rfl) (jX x.gq) (by omega)) ?_);simp -implicitDefEqProofs (disch:=omega) only[go_sem,hb,ht,hA,hU,e2,hC,hG,gQ,fE,hl,bH,gK])
  refine W3 ?_;exact bF (i+1) (by omega) (lQ (by omega)) (by rw[<-h3]<;>rfl) (by omega)
 ·simp -implicitDefEqProofs (disch:=omega) only[go_sem,hb]
  rw[oI (by omega),gN,List.take_of_length_le (by omega)]<;>first|rfl|exact⟨rfl,rfl⟩
theorem Jy(xs:List aL):tL prog 94 (xs.map aL.enc):=by
 intro k l j r p S rs hS hp hk;have hlen:=jD (f:=aL.enc) (fun x=>by simp only[aL.aA,encS,encI,List.cons_append,List.nil_append,iF,iV];omega) xs;obtain⟨rows,hr,hl⟩:∃rows,rows=xs.map aL.enc/\rows.length=xs.length:=⟨_,rfl,List.length_map _⟩;rw[<-hr] at hp hk hlen ⊢;refine zcx [.tmp 4] func94 ntmps94 ?_;refine W1 ?_;refine mQ zmx rfl hl rfl rfl fun i hi K gN=> ?_;simp -implicitDefEqProofs (disch:=omega) only[go_sem,hS,hp,cO,hl]
 with_reducible refine dD (fun hb=> ?_) (fun hb=> ?_)<;>have h:=hb<;>try simp only[wf_preprocess] at h
 ·have hi:i<xs.length:=by omega
  obtain⟨x,hx,hir,hK,hle,hC,hG⟩:=lq hr hi gN;simp only[aL.aA,encS,encI,List.cons_append,List.nil_append,iF,iV,lH,lI,lJ,lK,lN] at hK hle hC hG;simp -implicitDefEqProofs (disch:=omega) only[go_sem,hb,hS,hp,hC,hG,cO,hl,gK]
  repeat(refine W3 ?_;(first
   |refine aX (fF _ (by omega)) ?_
   |refine bg rfl (jY x.gq _ (1+l) j r _ _ _ (by rw[bM];exact hS) (eO hp (by rw[hC];rfl)) (by omega)) ?_);simp -implicitDefEqProofs (disch:=omega) only[go_sem,hb,hS,hp,hC,hG,cO,hl,gK,oW])
  refine W3 ?_;exact bF (i+1) (by omega) (lQ (by omega)) rfl (by omega)
 ·simp -implicitDefEqProofs (disch:=omega) only[go_sem,hb]
  rw[gN,List.take_of_length_le (by omega)]<;>first|rfl|exact⟨rfl,rfl⟩
theorem NN(xs:List aS):sO prog 43 (xs.map aS.enc):=by
 intro k l j r p S rs hS hp hk;have hlen:=jD (f:=aS.enc) (fun x=>by simp only[aS.aA,encS,encI,List.cons_append,List.nil_append,iF,iV];omega) xs;obtain⟨rows,hr,hl⟩:∃rows,rows=xs.map aS.enc/\rows.length=xs.length:=⟨_,rfl,List.length_map _⟩;rw[<-hr] at hp hk hlen ⊢;obtain⟨ht,hA,hU⟩:=tO hS hp;refine zcx [.tmp 4] func43 ntmps43 ?_;refine W1 ?_;refine mP zmx rfl hS hp hl rfl rfl fun i hi K gN=> ?_;simp -implicitDefEqProofs (disch:=omega) only[go_sem,ht,hA,iK,hl]
 with_reducible refine dD (fun hb=> ?_) (fun hb=> ?_)<;>have h:=hb<;>try simp only[wf_preprocess] at h
 ·have hi:i<xs.length:=by omega
  obtain⟨x,hx,hir,hK,hle,e2,hC,hG,h3⟩:=kG hr hi gN;simp only[aS.aA,encS,encI,List.cons_append,List.nil_append,iF,iV,lH,lI,lJ,lK,lN] at hK hle e2 h3;simp -implicitDefEqProofs (disch:=omega) only[go_sem,hb,ht,hA,hU,e2,hC,hG,gQ,fE,hl,bH,gK]
  repeat(refine W3 ?_;(first
   |refine aX (fF _ (by omega)) ?_
   |refine bg rfl (eP hS hp hir (by rfl) (nU x.aG) (by omega)) ?_
   |refine bg rfl (eP hS hp hir (by rfl) (Jw x.aF) (by omega)) ?_);simp -implicitDefEqProofs (disch:=omega) only[go_sem,hb,ht,hA,hU,e2,hC,hG,gQ,fE,hl,bH,gK])
  refine W3 ?_;exact bF (i+1) (by omega) (lQ (by omega)) (by rw[<-h3]<;>rfl) (by omega)
 ·simp -implicitDefEqProofs (disch:=omega) only[go_sem,hb]
  rw[oI (by omega),gN,List.take_of_length_le (by omega)]<;>first|rfl|exact⟨rfl,rfl⟩
theorem NP(xs:List aS):tL prog 48 (xs.map aS.enc):=by
 intro k l j r p S rs hS hp hk;have hlen:=jD (f:=aS.enc) (fun x=>by simp only[aS.aA,encS,encI,List.cons_append,List.nil_append,iF,iV];omega) xs;obtain⟨rows,hr,hl⟩:∃rows,rows=xs.map aS.enc/\rows.length=xs.length:=⟨_,rfl,List.length_map _⟩;rw[<-hr] at hp hk hlen ⊢;refine zcx [.tmp 4] func48 ntmps48 ?_;refine W1 ?_;refine mQ zmx rfl hl rfl rfl fun i hi K gN=> ?_;simp -implicitDefEqProofs (disch:=omega) only[go_sem,hS,hp,cO,hl]
 with_reducible refine dD (fun hb=> ?_) (fun hb=> ?_)<;>have h:=hb<;>try simp only[wf_preprocess] at h
 ·have hi:i<xs.length:=by omega
  obtain⟨x,hx,hir,hK,hle,hC,hG⟩:=lq hr hi gN;simp only[aS.aA,encS,encI,List.cons_append,List.nil_append,iF,iV,lH,lI,lJ,lK,lN] at hK hle hC hG;simp -implicitDefEqProofs (disch:=omega) only[go_sem,hb,hS,hp,hC,hG,cO,hl,gK]
  repeat(refine W3 ?_;(first
   |refine aX (fF _ (by omega)) ?_
   |refine bg rfl (nV x.aG _ (1+l) j r _ _ _ (by rw[bM];exact hS) (eO hp (by rw[hC];rfl)) (by omega)) ?_
   |refine bg rfl (Jy x.aF _ (1+l) j r _ _ _ (by rw[bM];exact hS) (eO hp (by rw[hC];rfl)) (by omega)) ?_);simp -implicitDefEqProofs (disch:=omega) only[go_sem,hb,hS,hp,hC,hG,cO,hl,gK,oW])
  refine W3 ?_;exact bF (i+1) (by omega) (lQ (by omega)) rfl (by omega)
 ·simp -implicitDefEqProofs (disch:=omega) only[go_sem,hb]
  rw[gN,List.take_of_length_le (by omega)]<;>first|rfl|exact⟨rfl,rfl⟩
theorem R6(xs:List bq):sO prog 91 (xs.map bq.enc):=by
 intro k l j r p S rs hS hp hk;have hlen:=jD (f:=bq.enc) (fun x=>by simp only[au.aA,bq.aA,ak.aA,encS,encI,List.cons_append,List.nil_append,iF,iV];omega) xs;obtain⟨rows,hr,hl⟩:∃rows,rows=xs.map bq.enc/\rows.length=xs.length:=⟨_,rfl,List.length_map _⟩;rw[<-hr] at hp hk hlen ⊢;obtain⟨ht,hA,hU⟩:=tO hS hp;refine zcx [.tmp 4] func91 ntmps91 ?_;refine W1 ?_;refine mP zmx rfl hS hp hl rfl rfl fun i hi K gN=> ?_;simp -implicitDefEqProofs (disch:=omega) only[go_sem,ht,hA,iK,hl]
 with_reducible refine dD (fun hb=> ?_) (fun hb=> ?_)<;>have h:=hb<;>try simp only[wf_preprocess] at h
 ·have hi:i<xs.length:=by omega
  obtain⟨x,hx,hir,hK,hle,e2,hC,hG,h3⟩:=kG hr hi gN;simp only[au.aA,bq.aA,ak.aA,encS,encI,List.cons_append,List.nil_append,iF,iV,lH,lI,lJ,lK,lN] at hK hle e2 h3;simp -implicitDefEqProofs (disch:=omega) only[go_sem,hb,ht,hA,hU,e2,hC,hG,gQ,fE,hl,bH,gK]
  repeat(refine W3 ?_;(first
   |refine aX (fF _ (by omega)) ?_
   |refine bg rfl (eP hS hp hir (by rfl) (nU x.aG) (by omega)) ?_
   |refine bg rfl (eP hS hp hir (by rfl) (jX x.fBody.fType.fArgs) (by omega)) ?_
   |refine bg rfl (eP hS hp hir (by rfl) (EK x.fBody.fArgs) (by omega)) ?_
   |refine bg rfl (eP hS hp hir (by rfl) (FX x.fBody.aQ) (by omega)) ?_);simp -implicitDefEqProofs (disch:=omega) only[go_sem,hb,ht,hA,hU,e2,hC,hG,gQ,fE,hl,bH,gK])
  refine W3 ?_;exact bF (i+1) (by omega) (lQ (by omega)) (by rw[<-h3]<;>rfl) (by omega)
 ·simp -implicitDefEqProofs (disch:=omega) only[go_sem,hb]
  rw[oI (by omega),gN,List.take_of_length_le (by omega)]<;>first|rfl|exact⟨rfl,rfl⟩
theorem R7(xs:List bq):tL prog 96 (xs.map bq.enc):=by
 intro k l j r p S rs hS hp hk;have hlen:=jD (f:=bq.enc) (fun x=>by simp only[au.aA,bq.aA,ak.aA,encS,encI,List.cons_append,List.nil_append,iF,iV];omega) xs;obtain⟨rows,hr,hl⟩:∃rows,rows=xs.map bq.enc/\rows.length=xs.length:=⟨_,rfl,List.length_map _⟩;rw[<-hr] at hp hk hlen ⊢;refine zcx [.tmp 4] func96 ntmps96 ?_;refine W1 ?_;refine mQ zmx rfl hl rfl rfl fun i hi K gN=> ?_;simp -implicitDefEqProofs (disch:=omega) only[go_sem,hS,hp,cO,hl]
 with_reducible refine dD (fun hb=> ?_) (fun hb=> ?_)<;>have h:=hb<;>try simp only[wf_preprocess] at h
 ·have hi:i<xs.length:=by omega
  obtain⟨x,hx,hir,hK,hle,hC,hG⟩:=lq hr hi gN;simp only[au.aA,bq.aA,ak.aA,encS,encI,List.cons_append,List.nil_append,iF,iV,lH,lI,lJ,lK,lN] at hK hle hC hG;simp -implicitDefEqProofs (disch:=omega) only[go_sem,hb,hS,hp,hC,hG,cO,hl,gK]
  repeat(refine W3 ?_;(first
   |refine aX (fF _ (by omega)) ?_
   |refine bg rfl (nV x.aG _ (1+l) j r _ _ _ (by rw[bM];exact hS) (eO hp (by rw[hC];rfl)) (by omega)) ?_
   |refine bg rfl (jY x.fBody.fType.fArgs _ (1+l) j r _ _ _ (by rw[bM];exact hS) (eO hp (by rw[hC];rfl)) (by omega)) ?_
   |refine bg rfl (EM x.fBody.fArgs _ (1+l) j r _ _ _ (by rw[bM];exact hS) (eO hp (by rw[hC];rfl)) (by omega)) ?_
   |refine bg rfl (FY x.fBody.aQ _ (1+l) j r _ _ _ (by rw[bM];exact hS) (eO hp (by rw[hC];rfl)) (by omega)) ?_);simp -implicitDefEqProofs (disch:=omega) only[go_sem,hb,hS,hp,hC,hG,cO,hl,gK,oW])
  refine W3 ?_;exact bF (i+1) (by omega) (lQ (by omega)) rfl (by omega)
 ·simp -implicitDefEqProofs (disch:=omega) only[go_sem,hb]
  rw[gN,List.take_of_length_le (by omega)]<;>first|rfl|exact⟨rfl,rfl⟩
theorem NQ(xs:List aP):sO prog 44 (xs.map aP.enc):=by
 intro k l j r p S rs hS hp hk;have hlen:=jD (f:=aP.enc) (fun x=>by simp only[aP.aA,ak.aA,encS,encI,List.cons_append,List.nil_append,iF,iV];omega) xs;obtain⟨rows,hr,hl⟩:∃rows,rows=xs.map aP.enc/\rows.length=xs.length:=⟨_,rfl,List.length_map _⟩;rw[<-hr] at hp hk hlen ⊢;obtain⟨ht,hA,hU⟩:=tO hS hp;refine zcx [.tmp 4] func44 ntmps44 ?_;refine W1 ?_;refine mP zmx rfl hS hp hl rfl rfl fun i hi K gN=> ?_;simp -implicitDefEqProofs (disch:=omega) only[go_sem,ht,hA,iK,hl]
 with_reducible refine dD (fun hb=> ?_) (fun hb=> ?_)<;>have h:=hb<;>try simp only[wf_preprocess] at h
 ·have hi:i<xs.length:=by omega
  obtain⟨x,hx,hir,hK,hle,e2,hC,hG,h3⟩:=kG hr hi gN;simp only[aP.aA,ak.aA,encS,encI,List.cons_append,List.nil_append,iF,iV,lH,lI,lJ,lK,lN] at hK hle e2 h3;simp -implicitDefEqProofs (disch:=omega) only[go_sem,hb,ht,hA,hU,e2,hC,hG,gQ,fE,hl,bH,gK]
  repeat(refine W3 ?_;(first
   |refine aX (fF _ (by omega)) ?_
   |refine bg rfl (eP hS hp hir (by rfl) (nU x.aG) (by omega)) ?_
   |refine bg rfl (eP hS hp hir (by rfl) (jX x.bQ.fArgs) (by omega)) ?_
   |refine bg rfl (eP hS hp hir (by rfl) (Jr x.bY) (by omega)) ?_
   |refine bg rfl (eP hS hp hir (by rfl) (jX x.bD.fArgs) (by omega)) ?_
   |refine bg rfl (eP hS hp hir (by rfl) (R6 x.aJ) (by omega)) ?_);simp -implicitDefEqProofs (disch:=omega) only[go_sem,hb,ht,hA,hU,e2,hC,hG,gQ,fE,hl,bH,gK])
  refine W3 ?_;exact bF (i+1) (by omega) (lQ (by omega)) (by rw[<-h3]<;>rfl) (by omega)
 ·simp -implicitDefEqProofs (disch:=omega) only[go_sem,hb]
  rw[oI (by omega),gN,List.take_of_length_le (by omega)]<;>first|rfl|exact⟨rfl,rfl⟩
theorem NR(xs:List aP):tL prog 49 (xs.map aP.enc):=by
 intro k l j r p S rs hS hp hk;have hlen:=jD (f:=aP.enc) (fun x=>by simp only[aP.aA,ak.aA,encS,encI,List.cons_append,List.nil_append,iF,iV];omega) xs;obtain⟨rows,hr,hl⟩:∃rows,rows=xs.map aP.enc/\rows.length=xs.length:=⟨_,rfl,List.length_map _⟩;rw[<-hr] at hp hk hlen ⊢;refine zcx [.tmp 4] func49 ntmps49 ?_;refine W1 ?_;refine mQ zmx rfl hl rfl rfl fun i hi K gN=> ?_;simp -implicitDefEqProofs (disch:=omega) only[go_sem,hS,hp,cO,hl]
 with_reducible refine dD (fun hb=> ?_) (fun hb=> ?_)<;>have h:=hb<;>try simp only[wf_preprocess] at h
 ·have hi:i<xs.length:=by omega
  obtain⟨x,hx,hir,hK,hle,hC,hG⟩:=lq hr hi gN;simp only[aP.aA,ak.aA,encS,encI,List.cons_append,List.nil_append,iF,iV,lH,lI,lJ,lK,lN] at hK hle hC hG;simp -implicitDefEqProofs (disch:=omega) only[go_sem,hb,hS,hp,hC,hG,cO,hl,gK]
  repeat(refine W3 ?_;(first
   |refine aX (fF _ (by omega)) ?_
   |refine bg rfl (nV x.aG _ (1+l) j r _ _ _ (by rw[bM];exact hS) (eO hp (by rw[hC];rfl)) (by omega)) ?_
   |refine bg rfl (jY x.bQ.fArgs _ (1+l) j r _ _ _ (by rw[bM];exact hS) (eO hp (by rw[hC];rfl)) (by omega)) ?_
   |refine bg rfl (Js x.bY _ (1+l) j r _ _ _ (by rw[bM];exact hS) (eO hp (by rw[hC];rfl)) (by omega)) ?_
   |refine bg rfl (jY x.bD.fArgs _ (1+l) j r _ _ _ (by rw[bM];exact hS) (eO hp (by rw[hC];rfl)) (by omega)) ?_
   |refine bg rfl (R7 x.aJ _ (1+l) j r _ _ _ (by rw[bM];exact hS) (eO hp (by rw[hC];rfl)) (by omega)) ?_);simp -implicitDefEqProofs (disch:=omega) only[go_sem,hb,hS,hp,hC,hG,cO,hl,gK,oW])
  refine W3 ?_;exact bF (i+1) (by omega) (lQ (by omega)) rfl (by omega)
 ·simp -implicitDefEqProofs (disch:=omega) only[go_sem,hb]
  rw[gN,List.take_of_length_le (by omega)]<;>first|rfl|exact⟨rfl,rfl⟩
theorem UY(xs:List bL):sO prog 92 (xs.map bL.enc):=by
 intro k l j r p S rs hS hp hk;have hlen:=jD (f:=bL.enc) (fun x=>by simp only[bL.aA,ak.aA,encS,encI,List.cons_append,List.nil_append,iF,iV];omega) xs;obtain⟨rows,hr,hl⟩:∃rows,rows=xs.map bL.enc/\rows.length=xs.length:=⟨_,rfl,List.length_map _⟩;rw[<-hr] at hp hk hlen ⊢;obtain⟨ht,hA,hU⟩:=tO hS hp;refine zcx [.tmp 4] func92 ntmps92 ?_;refine W1 ?_;refine mP zmx rfl hS hp hl rfl rfl fun i hi K gN=> ?_;simp -implicitDefEqProofs (disch:=omega) only[go_sem,ht,hA,iK,hl]
 with_reducible refine dD (fun hb=> ?_) (fun hb=> ?_)<;>have h:=hb<;>try simp only[wf_preprocess] at h
 ·have hi:i<xs.length:=by omega
  obtain⟨x,hx,hir,hK,hle,e2,hC,hG,h3⟩:=kG hr hi gN;simp only[bL.aA,ak.aA,encS,encI,List.cons_append,List.nil_append,iF,iV,lH,lI,lJ,lK,lN] at hK hle e2 h3;simp -implicitDefEqProofs (disch:=omega) only[go_sem,hb,ht,hA,hU,e2,hC,hG,gQ,fE,hl,bH,gK]
  repeat(refine W3 ?_;(first
   |refine aX (fF _ (by omega)) ?_
   |refine bg rfl (eP hS hp hir (by rfl) (jX x.fType.fArgs) (by omega)) ?_);simp -implicitDefEqProofs (disch:=omega) only[go_sem,hb,ht,hA,hU,e2,hC,hG,gQ,fE,hl,bH,gK])
  refine W3 ?_;exact bF (i+1) (by omega) (lQ (by omega)) (by rw[<-h3]<;>rfl) (by omega)
 ·simp -implicitDefEqProofs (disch:=omega) only[go_sem,hb]
  rw[oI (by omega),gN,List.take_of_length_le (by omega)]<;>first|rfl|exact⟨rfl,rfl⟩
theorem UZ(xs:List bL):tL prog 97 (xs.map bL.enc):=by
 intro k l j r p S rs hS hp hk;have hlen:=jD (f:=bL.enc) (fun x=>by simp only[bL.aA,ak.aA,encS,encI,List.cons_append,List.nil_append,iF,iV];omega) xs;obtain⟨rows,hr,hl⟩:∃rows,rows=xs.map bL.enc/\rows.length=xs.length:=⟨_,rfl,List.length_map _⟩;rw[<-hr] at hp hk hlen ⊢;refine zcx [.tmp 4] func97 ntmps97 ?_;refine W1 ?_;refine mQ zmx rfl hl rfl rfl fun i hi K gN=> ?_;simp -implicitDefEqProofs (disch:=omega) only[go_sem,hS,hp,cO,hl]
 with_reducible refine dD (fun hb=> ?_) (fun hb=> ?_)<;>have h:=hb<;>try simp only[wf_preprocess] at h
 ·have hi:i<xs.length:=by omega
  obtain⟨x,hx,hir,hK,hle,hC,hG⟩:=lq hr hi gN;simp only[bL.aA,ak.aA,encS,encI,List.cons_append,List.nil_append,iF,iV,lH,lI,lJ,lK,lN] at hK hle hC hG;simp -implicitDefEqProofs (disch:=omega) only[go_sem,hb,hS,hp,hC,hG,cO,hl,gK]
  repeat(refine W3 ?_;(first
   |refine aX (fF _ (by omega)) ?_
   |refine bg rfl (jY x.fType.fArgs _ (1+l) j r _ _ _ (by rw[bM];exact hS) (eO hp (by rw[hC];rfl)) (by omega)) ?_);simp -implicitDefEqProofs (disch:=omega) only[go_sem,hb,hS,hp,hC,hG,cO,hl,gK,oW])
  refine W3 ?_;exact bF (i+1) (by omega) (lQ (by omega)) rfl (by omega)
 ·simp -implicitDefEqProofs (disch:=omega) only[go_sem,hb]
  rw[gN,List.take_of_length_le (by omega)]<;>first|rfl|exact⟨rfl,rfl⟩
theorem NS(xs:List aU):sO prog 45 (xs.map aU.enc):=by
 intro k l j r p S rs hS hp hk;have hlen:=jD (f:=aU.enc) (fun x=>by simp only[au.aA,aU.aA,ak.aA,encS,encI,List.cons_append,List.nil_append,iF,iV];omega) xs;obtain⟨rows,hr,hl⟩:∃rows,rows=xs.map aU.enc/\rows.length=xs.length:=⟨_,rfl,List.length_map _⟩;rw[<-hr] at hp hk hlen ⊢;obtain⟨ht,hA,hU⟩:=tO hS hp;refine zcx [.tmp 4] func45 ntmps45 ?_;refine W1 ?_;refine mP zmx rfl hS hp hl rfl rfl fun i hi K gN=> ?_;simp -implicitDefEqProofs (disch:=omega) only[go_sem,ht,hA,iK,hl]
 with_reducible refine dD (fun hb=> ?_) (fun hb=> ?_)<;>have h:=hb<;>try simp only[wf_preprocess] at h
 ·have hi:i<xs.length:=by omega
  obtain⟨x,hx,hir,hK,hle,e2,hC,hG,h3⟩:=kG hr hi gN;simp only[au.aA,aU.aA,ak.aA,encS,encI,List.cons_append,List.nil_append,iF,iV,lH,lI,lJ,lK,lN] at hK hle e2 h3;simp -implicitDefEqProofs (disch:=omega) only[go_sem,hb,ht,hA,hU,e2,hC,hG,gQ,fE,hl,bH,gK]
  repeat(refine W3 ?_;(first
   |refine aX (fF _ (by omega)) ?_
   |refine bg rfl (eP hS hp hir (by rfl) (nU x.aG) (by omega)) ?_
   |refine bg rfl (eP hS hp hir (by rfl) (Jr x.bY) (by omega)) ?_
   |refine bg rfl (eP hS hp hir (by rfl) (UY x.aW) (by omega)) ?_
   |refine bg rfl (eP hS hp hir (by rfl) (jX x.bP.fArgs) (by omega)) ?_
   |refine bg rfl (eP hS hp hir (by rfl) (jX x.fBody.fType.fArgs) (by omega)) ?_
   |refine bg rfl (eP hS hp hir (by rfl) (EK x.fBody.fArgs) (by omega)) ?_
   |refine bg rfl (eP hS hp hir (by rfl) (FX x.fBody.aQ) (by omega)) ?_);simp -implicitDefEqProofs (disch:=omega) only[go_sem,hb,ht,hA,hU,e2,hC,hG,gQ,fE,hl,bH,gK])
  refine W3 ?_;exact bF (i+1) (by omega) (lQ (by omega)) (by rw[<-h3]<;>rfl) (by omega)
 ·simp -implicitDefEqProofs (disch:=omega) only[go_sem,hb]
  rw[oI (by omega),gN,List.take_of_length_le (by omega)]<;>first|rfl|exact⟨rfl,rfl⟩
theorem NT(xs:List aU):tL prog 50 (xs.map aU.enc):=by
 intro k l j r p S rs hS hp hk;have hlen:=jD (f:=aU.enc) (fun x=>by simp only[au.aA,aU.aA,ak.aA,encS,encI,List.cons_append,List.nil_append,iF,iV];omega) xs;obtain⟨rows,hr,hl⟩:∃rows,rows=xs.map aU.enc/\rows.length=xs.length:=⟨_,rfl,List.length_map _⟩;rw[<-hr] at hp hk hlen ⊢;refine zcx [.tmp 4] func50 ntmps50 ?_;refine W1 ?_;refine mQ zmx rfl hl rfl rfl fun i hi K gN=> ?_;simp -implicitDefEqProofs (disch:=omega) only[go_sem,hS,hp,cO,hl]
 with_reducible refine dD (fun hb=> ?_) (fun hb=> ?_)<;>have h:=hb<;>try simp only[wf_preprocess] at h
 ·have hi:i<xs.length:=by omega
  obtain⟨x,hx,hir,hK,hle,hC,hG⟩:=lq hr hi gN;simp only[au.aA,aU.aA,ak.aA,encS,encI,List.cons_append,List.nil_append,iF,iV,lH,lI,lJ,lK,lN] at hK hle hC hG;simp -implicitDefEqProofs (disch:=omega) only[go_sem,hb,hS,hp,hC,hG,cO,hl,gK]
  repeat(refine W3 ?_;(first
   |refine aX (fF _ (by omega)) ?_
   |refine bg rfl (nV x.aG _ (1+l) j r _ _ _ (by rw[bM];exact hS) (eO hp (by rw[hC];rfl)) (by omega)) ?_
   |refine bg rfl (Js x.bY _ (1+l) j r _ _ _ (by rw[bM];exact hS) (eO hp (by rw[hC];rfl)) (by omega)) ?_
   |refine bg rfl (UZ x.aW _ (1+l) j r _ _ _ (by rw[bM];exact hS) (eO hp (by rw[hC];rfl)) (by omega)) ?_
   |refine bg rfl (jY x.bP.fArgs _ (1+l) j r _ _ _ (by rw[bM];exact hS) (eO hp (by rw[hC];rfl)) (by omega)) ?_
   |refine bg rfl (jY x.fBody.fType.fArgs _ (1+l) j r _ _ _ (by rw[bM];exact hS) (eO hp (by rw[hC];rfl)) (by omega)) ?_
   |refine bg rfl (EM x.fBody.fArgs _ (1+l) j r _ _ _ (by rw[bM];exact hS) (eO hp (by rw[hC];rfl)) (by omega)) ?_
   |refine bg rfl (FY x.fBody.aQ _ (1+l) j r _ _ _ (by rw[bM];exact hS) (eO hp (by rw[hC];rfl)) (by omega)) ?_);simp -implicitDefEqProofs (disch:=omega) only[go_sem,hb,hS,hp,hC,hG,cO,hl,gK,oW])
  refine W3 ?_;exact bF (i+1) (by omega) (lQ (by omega)) rfl (by omega)
 ·simp -implicitDefEqProofs (disch:=omega) only[go_sem,hb]
  rw[gN,List.take_of_length_le (by omega)]<;>first|rfl|exact⟨rfl,rfl⟩
theorem QE(xs:List aI):sO prog 56 (xs.map aI.enc):=by
 intro k l j r p S rs hS hp hk;have hlen:=jD (f:=aI.enc) (fun x=>by simp only[aI.aA,encS,encI,List.cons_append,List.nil_append,iF,iV];omega) xs;obtain⟨rows,hr,hl⟩:∃rows,rows=xs.map aI.enc/\rows.length=xs.length:=⟨_,rfl,List.length_map _⟩;rw[<-hr] at hp hk hlen ⊢;obtain⟨ht,hA,hU⟩:=tO hS hp;refine zcx [.tmp 4] func56 ntmps56 ?_;refine W1 ?_;refine mP zmx rfl hS hp hl rfl rfl fun i hi K gN=> ?_;simp -implicitDefEqProofs (disch:=omega) only[go_sem,ht,hA,iK,hl]
 with_reducible refine dD (fun hb=> ?_) (fun hb=> ?_)<;>have h:=hb<;>try simp only[wf_preprocess] at h
 ·have hi:i<xs.length:=by omega
  obtain⟨x,hx,hir,hK,hle,e2,hC,hG,h3⟩:=kG hr hi gN;simp only[aI.aA,encS,encI,List.cons_append,List.nil_append,iF,iV,lH,lI,lJ,lK,lN] at hK hle e2 h3;simp -implicitDefEqProofs (disch:=omega) only[go_sem,hb,ht,hA,hU,e2,hC,hG,gQ,fE,hl,bH,gK]
  repeat(refine W3 ?_;(first
   |refine aX (fF _ (by omega)) ?_
   |refine bg rfl (eP hS hp hir (by rfl) (nU x.jv) (by omega)) ?_
   |refine bg rfl (eP hS hp hir (by rfl) (UU x.dV) (by omega)) ?_
   |refine bg rfl (eP hS hp hir (by rfl) (NN x.aV) (by omega)) ?_
   |refine bg rfl (eP hS hp hir (by rfl) (NQ x.dI) (by omega)) ?_
   |refine bg rfl (eP hS hp hir (by rfl) (NS x.cu) (by omega)) ?_);simp -implicitDefEqProofs (disch:=omega) only[go_sem,hb,ht,hA,hU,e2,hC,hG,gQ,fE,hl,bH,gK])
  refine W3 ?_;exact bF (i+1) (by omega) (lQ (by omega)) (by rw[<-h3]<;>rfl) (by omega)
 ·simp -implicitDefEqProofs (disch:=omega) only[go_sem,hb]
  rw[oI (by omega),gN,List.take_of_length_le (by omega)]<;>first|rfl|exact⟨rfl,rfl⟩
theorem QF(xs:List aI):tL prog 57 (xs.map aI.enc):=by
 intro k l j r p S rs hS hp hk;have hlen:=jD (f:=aI.enc) (fun x=>by simp only[aI.aA,encS,encI,List.cons_append,List.nil_append,iF,iV];omega) xs;obtain⟨rows,hr,hl⟩:∃rows,rows=xs.map aI.enc/\rows.length=xs.length:=⟨_,rfl,List.length_map _⟩;rw[<-hr] at hp hk hlen ⊢;refine zcx [.tmp 4] func57 ntmps57 ?_;refine W1 ?_;refine mQ zmx rfl hl rfl rfl fun i hi K gN=> ?_;simp -implicitDefEqProofs (disch:=omega) only[go_sem,hS,hp,cO,hl]
 with_reducible refine dD (fun hb=> ?_) (fun hb=> ?_)<;>have h:=hb<;>try simp only[wf_preprocess] at h
 ·have hi:i<xs.length:=by omega
  obtain⟨x,hx,hir,hK,hle,hC,hG⟩:=lq hr hi gN;simp only[aI.aA,encS,encI,List.cons_append,List.nil_append,iF,iV,lH,lI,lJ,lK,lN] at hK hle hC hG;simp -implicitDefEqProofs (disch:=omega) only[go_sem,hb,hS,hp,hC,hG,cO,hl,gK]
  repeat(refine W3 ?_;(first
   |refine aX (fF _ (by omega)) ?_
   |refine bg rfl (nV x.jv _ (1+l) j r _ _ _ (by rw[bM];exact hS) (eO hp (by rw[hC];rfl)) (by omega)) ?_
   |refine bg rfl (UW x.dV _ (1+l) j r _ _ _ (by rw[bM];exact hS) (eO hp (by rw[hC];rfl)) (by omega)) ?_
   |refine bg rfl (NP x.aV _ (1+l) j r _ _ _ (by rw[bM];exact hS) (eO hp (by rw[hC];rfl)) (by omega)) ?_
   |refine bg rfl (NR x.dI _ (1+l) j r _ _ _ (by rw[bM];exact hS) (eO hp (by rw[hC];rfl)) (by omega)) ?_
   |refine bg rfl (NT x.cu _ (1+l) j r _ _ _ (by rw[bM];exact hS) (eO hp (by rw[hC];rfl)) (by omega)) ?_);simp -implicitDefEqProofs (disch:=omega) only[go_sem,hb,hS,hp,hC,hG,cO,hl,gK,oW])
  refine W3 ?_;exact bF (i+1) (by omega) (lQ (by omega)) rfl (by omega)
 ·simp -implicitDefEqProofs (disch:=omega) only[go_sem,hb]
  rw[gN,List.take_of_length_le (by omega)]<;>first|rfl|exact⟨rfl,rfl⟩
theorem R8(x:dU)(k:Int)(l j b:Nat)(S:Store)(rs:List (List (List D)))(hS:bG S (l,j)=some (.xf rs))(h0:atR rs (b+0) []=some (x.iN.map aI.enc))(hk:0<=k/\k+((iC (x.iN.map aI.enc):Nat):Int)<=4611686018427387904):dh prog 19 [.agg [.xp (l,j) (b+0) []],.c (.d (.i .i64 k))] S (fun res S'=>res=.c (.d (.i .i64 (k+((iC (x.iN.map aI.enc):Nat):Int))))/\S'=bR S (l,j) (.xf (kK (rs) (b+0) [] (qL (x.iN.map aI.enc) (k))))):=by
 have ht:∀x:Ab.Obj,bG (bR S (l,j) x) (l,j)=some x:=fun x=>fB _ _ _ _ hS;refine zcx [.tmp 4] func19 ntmps19 ?_;refine W1 ?_;refine bg rfl (QE x.iN (k) (1+l) j (b+0) [] _ _ (by rw[bM];first|exact hS|exact ht _) (by first|assumption|(simp(disch:=omega) only[ne_eq,afL];assumption)) (by omega)) ?_;simp -implicitDefEqProofs (disch:=omega) only[go_sem,bH,dZ]
 try exact⟨rfl,rfl⟩
theorem GX(x:dU)(k:Int)(l j b:Nat)(S:Store)(rs:List (List (List D)))(hS:bG S (l,j)=some (.xf rs))(h0:atR rs (b+0) []=some (qL (x.iN.map aI.enc) (k)))(hk:0<=k/\k+((iC (x.iN.map aI.enc):Nat):Int)<=4611686018427387904):dh prog 20 [.agg [.xp (l,j) (b+0) []],.c (.d (.i .i64 k))] S (fun res S'=>res=.c (.d (.i .i64 (k+((iC (x.iN.map aI.enc):Nat):Int))))/\S'=S):=by
 refine zcx [.tmp 4] func20 ntmps20 ?_;refine W1 ?_;refine bg rfl (QF x.iN (k) (1+l) j (b+0) [] _ _ (by rw[bM];first|exact hS|exact ht _) (by first|assumption|(simp(disch:=omega) only[ne_eq,afL];assumption)) (by omega)) ?_;simp -implicitDefEqProofs (disch:=omega) only[go_sem,oW]
 try exact⟨rfl,rfl⟩
end Go.Ab
namespace Go.Proofs.YtokkjobjffhfjaaGreatDoor.fnExactParseProgram
open Go Go.Ab
theorem law(x0:List UInt8)(f0:Cz [D.s x0]):dh prog 5 [.c (.d (.s x0))] [] (fun r _=>r=.c (.d (.b true))):=by
 refine zcx [.tmp 2] func5 ntmps5 ?_;refine W1 ?_;refine S1 fun hb h=>?_
 have h0:x0.length<=1048576:=by omega
 have c1:=UR x0 h0;have c2:=fun n=>QD x0 n h0;have hd:(K4 x0).sz<=1048576:=aox x0;obtain⟨X,hX⟩:∃X,X=K4 x0:=⟨_,rfl⟩;obtain⟨B,hB⟩:∃B,B=R4 x0:=⟨_,rfl⟩;rw[<-hX] at hd;simp only[<-hX,<-hB] at c1 c2;have hmd:=Xu X.enc X.gY.2;rw[dU.cK,dU.d9] at hmd;simp only[dU.aA,List.cons_append,List.nil_append,iF,iV] at hmd
 have c3:aH prog 17 [.c (.d (.s x0))] (.dL [(true,X.enc.map .d),(false,[.d (.i .i64 B)])]):=
  aH.less (c2 0) (afM fun w σ S β vs h=>afD h)
 simp only[dU.aA,List.cons_append,List.nil_append,List.map_cons,List.map_nil] at c1 c3;refine aX c1 ?_;refine W1 ?_;refine bg rfl (dh.own (mk:=fun cs=>.dL ((true,cs)::[C.d (.i .i64 B)].map fun x=>(false,[x]))) (r:=X.enc) (acY [C.d (.i .i64 B)] rfl) X.gY.1 (fun n=>c2 n)) ?_;simp -implicitDefEqProofs (disch:=omega) only[go_sem,dU.aA,List.cons_append,List.nil_append,List.map_cons,List.map_nil,Kv,acV,LA];refine bg rfl (dh.lend (k:=(0,1)) rfl (acZ rfl) (KY X X (by omega))) ?_;simp -implicitDefEqProofs (disch:=omega) only[go_sem,aZ rfl,Bool.not_true];refine bg rfl (R8 X 1 0 1 0 _ _ rfl rfl ⟨by omega,by omega⟩) ?_;refine W1 ?_;refine bg rfl (GX X 1 0 1 0 _ _ rfl rfl ⟨by omega,by omega⟩) ?_;simp -implicitDefEqProofs (disch:=omega) only[go_sem,oW,Bool.not_true];refine aX c3 ?_;refine W1 ?_;refine aX (KY X X (by omega)) ?_;simp -implicitDefEqProofs (disch:=omega) only[go_sem,aZ rfl,Bool.not_true];refine bg rfl (GX X 1 0 1 0 _ _ rfl rfl ⟨by omega,by omega⟩) ?_;simp -implicitDefEqProofs (disch:=omega) only[go_sem,oW,Bool.not_true]
end Go.Proofs.YtokkjobjffhfjaaGreatDoor.fnExactParseProgram
namespace Go.Ab
theorem U0{H:Type}{enc:TypeId×Value->H}{P:Program}{w:World}{base:Nat}{sp:Nat->Bool}{held:Bool}{fuel n:Nat}{t e:TypeId}{k:IntKind}{cs:List Value}{ns:List Int}{p:List MemPlace}
 (ht:P.underlying t=some (.array n e))(he:P.underlying e=some (.int k))(ce:P.cellsOf e=1)(ct:P.cellsOf t=n)
 (h:DataW.trod enc P w base sp held fuel t cs=some (.agg (ns.map fun z=>.lit (.int k z)),p)):cs=ns.map (Value.int k ·):=by
 obtain⟨xs,m,_,ex,hlen,hl,hel⟩:=DataW.trod_array ht h;rw[ct] at hlen;have e3:=DataW.agg.inj (Prod.mk.inj ex).1
 have hns:ns.length=n:=by have:=congrArg List.length e3;simpa [hl] using this
 refine List.ext_getElem (by rw[hlen,List.length_map,hns]) fun i h1 h2=> ?_;have k0:=hel i (by omega);rw[ce,Nat.mul_one] at k0
 have hd:(cs.drop i).take 1=[cs[i]]:=by
  rw[List.drop_eq_getElem_cons h1];rfl
 rw[hd,List.getElem?_eq_getElem (by omega)] at k0;obtain⟨z,a,b,_⟩:=DataW.trod_int he k0
 have e4:(ns.map fun z=>(DataW.lit (Lit.int k z):DataW H))[i]'(by rw[List.length_map];omega)=(xs.map (·.1))[i]'(by rw[List.length_map];omega):=by simp only[e3]
 rw[List.getElem_map,List.getElem_map,b] at e4;simp only[DataW.lit.injEq,Lit.int.injEq,true_and] at e4;rw[List.getElem_map,e4];simpa using a
theorem K8{P:Program}{w:World}{n:String}{g:Nat}{cs:Array Value}(hg:P.globalNamed n=some g)(h:w.var? P n=some cs):∃t fz,w.heap[g]? =some (.cells cs t fz):=by
 unfold World.var? at h;rw[hg] at h;simp only[Option.bind_some] at h;split at h
 ·rename_i c t fz hh;cases h;exact⟨t,fz,hh⟩
 ·cases h
open Go.ChangeShapes
theorem gES:prog.globalNamed "strconv.ErrSyntax" =some 3:=by kernel_rfl
theorem amL:(prog.globals[3]?).map (·.type)=some 239:=by kernel_rfl
theorem gER:prog.globalNamed "strconv.ErrRange" =some 4:=by kernel_rfl
theorem amM:(prog.globals[4]?).map (·.type)=some 239:=by kernel_rfl
theorem cellsE:prog.cellsOf 314=1:=by kernel_rfl
theorem cellsS:prog.cellsOf 9=1:=by kernel_rfl
theorem akQ: "*" ++ "errors.errorString" = "*errors.errorString" :=by decide
theorem aoz(u:TypeId)(h:prog.typeName? 3 u=some "*errors.errorString"):u=312:=
 typeName_ptr_named (nm:= "errors.errorString") (by rw[akQ];kernel_rfl) (by kernel_rfl) (by decide) u (by rw[akQ];exact h)
theorem YG{W:World}{r:List (String×DataW Unit)}(hr:(r.all fun x=>x.2.handleName?.isNone)=true)
 (h0:laidMetH prog (("math/bits.deBruijn32tab",YtokkjobjffhfjaaGreatDoor.Rows.laid_math_bits_deBruijn32tab)::("math/bits.deBruijn64tab",YtokkjobjffhfjaaGreatDoor.Rows.laid_math_bits_deBruijn64tab)::("internal/strconv.uint64pow10",YtokkjobjffhfjaaGreatDoor.Rows.laid_internal_strconv_uint64pow10)::("unicode/utf8.acceptRanges",YtokkjobjffhfjaaGreatDoor.Rows.laid_unicode_utf8_acceptRanges)::("strconv.ErrRange",YtokkjobjffhfjaaGreatDoor.Rows.laid_strconv_ErrRange)::("strconv.ErrSyntax",YtokkjobjffhfjaaGreatDoor.Rows.laid_strconv_ErrSyntax)::r) W):nI W (lC W):=by
 rw[MakeChecks.laidMetH_plain _ _ _ (by
  rw[List.all_cons,List.all_cons,List.all_cons,List.all_cons,List.all_cons,List.all_cons,hr];kernel_rfl)] at h0
 have hR:=h0.tail.tail.tail.tail;have hS:=hR.tail;obtain⟨a1,s1,hv1,_,_,_⟩:=laid_sentinel hR gER amM underlying239 aoz underlying312 underlying314 rfl rfl underlying9 cellsE cellsS;obtain⟨a2,s2,hv2,_,_,_⟩:=laid_sentinel hS gES amL underlying239 aoz underlying312 underlying314 rfl rfl underlying9 cellsE cellsS;obtain⟨t1,F9,I9⟩:=K8 gER hv1;obtain⟨t2,fz2,yw⟩:=K8 gES hv2;obtain⟨ps,⟨_,_,_,_,_,_,_,_,_,_,⟨_,_,_,_,_,_,_,_,_,_,⟨g,t,cs,fuel,p,q,hg,ht,hv,hd,_,_⟩,_⟩,_⟩,_,_⟩:=h0
 have hn:prog.globalNamed "internal/strconv.uint64pow10" =some 5:=by kernel_rfl
 obtain rfl:=Option.some.inj (hn.symm.trans hg);obtain rfl:=Option.some.inj ((show(prog.globals[5]?).map (·.type)=some 303 by kernel_rfl).symm.trans ht)
 have hl:(YtokkjobjffhfjaaGreatDoor.Rows.laid_internal_strconv_uint64pow10:DataW Unit)=.agg (((List.range 20).map fun i=>((10^i:Nat):Int)).map fun z=>.lit (.int .u64 z)):=by kernel_rfl
 rw[hl] at hd;have e:=U0 underlying303 underlying282 (by kernel_rfl) (by kernel_rfl) hd;obtain⟨t',fz,hh⟩:=K8 hg hv;intro g' p' hm
 have fast:∀{b:Nat}{c:Array Value}{t:TypeId}{fz:Nat×Nat},W.heap[b]? =some (.cells c t fz)->c.size<=lC W b:=fun {b c t fz} hb=>by
  unfold lC;rw[hb];exact Nat.le_refl _
 rcases List.mem_cons.1 hm with hm|hm
 ·cases hm;refine⟨cs,t',fz,hh,?_,fast hh⟩;show cs.toList=_;rw[e,List.map_map];rfl
 rcases List.mem_cons.1 hm with hm|hm
 ·cases hm;exact⟨_,t1,F9,I9,⟨_,_,rfl⟩,fast I9⟩
 ·have hm':=List.eq_of_mem_singleton hm;cases hm';exact⟨_,t2,fz2,yw,⟨_,_,rfl⟩,fast yw⟩
theorem aoA{P:Program}{n:Nat}{t:TypeId}{ds:List D}(h:WT P n t ds):∃m,n=m+1:=by
 cases n with
 |zero=>exact h.elim
 |succ m=>exact⟨m,rfl⟩
theorem ag8{P:Program}{n:Nat}{t:TypeId}{ds:List D}(ht:P.underlying t=some .string)(h:WT P n t ds):∃l,ds=[.s l]:=by
 obtain⟨m,rfl⟩:=aoA h;simp only[WT,ht] at h;exact⟨h.choose,h.choose_spec.1⟩
theorem aa4{P:Program}{W:TypeId->List D->Prop}(hW:∀t ds,W t ds->Cz ds):∀(fs:List Field)(ds:List D),WTF P W fs ds->Cz ds
 |[],ds,h=>by
  have h:ds=[]:=h;rw[h];exact Ec
 |f::fs,ds,h=>by
  obtain⟨a,b,rfl,_,h1,h2⟩:=h;exact Zj.2 ⟨hW _ _ h1,aa4 hW fs b h2⟩
theorem YH{P:Program}:∀(n:Nat)(t:TypeId)(ds:List D),WT P n t ds->Cz ds
 |0,t,ds,h=>h.elim
 |n+1,t,ds,h=>by
  simp only[WT] at h;split at h
  ·obtain⟨b,rfl⟩:=h;exact EU.2 ⟨.b _,Ec⟩
  ·obtain⟨b,rfl,_⟩:=h;exact EU.2 ⟨.i _ _,Ec⟩
  ·obtain⟨l,rfl,hl⟩:=h;exact EU.2 ⟨.s _ hl,Ec⟩
  ·obtain⟨es,rfl,hl,hh⟩:=h;exact EU.2 ⟨.sl _ hl fun e he d hd=>YH n _ e (hh e he).2 d hd,Ec⟩
  ·exact aa4 (YH n) _ _ h
  ·exact h.elim
end Go.Ab