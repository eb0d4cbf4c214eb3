/-
  SEVERAL TEXTS IN ONE (merged by program): contracts and models, each with its own heading.
-/
import Derived.Test.YtnceiannponbjaaGreatDoorPartDlbQ
set_option linter.unusedSimpArgs false
set_option linter.unusedVariables false
namespace Go.Ab
theorem Cz(n:Nat):HY (.sl []) (.ol n []):=fun w σ v h=>by
 cases h with
 |nil a cap=>exact .oU n a cap
 |sl b off cap aQ es vals c t fz hcap hlen hb hσ hc hv=>exact .oU n _ _
theorem HY.trans{a b c:D}(h:HY a b)(k:HY b c):HY a c:=fun w σ v x=>k w σ v (h w σ v x)
theorem kR.trans:∀{a b c:List D},kR a b->kR b c->kR a c
 |_,_,_,.nil,.nil=>.nil
 |_,_,_,.cons x h,.cons y k=>.cons (x.trans y) (h.trans k)
theorem gV.trans:∀{a b c:List (List D)},gV a b->gV b c->gV a c
 |_,_,_,.nil,.nil=>.nil
 |_,_,_,.cons x h,.cons y k=>.cons (x.trans y) (h.trans k)
theorem gV.at{a b:List (List D)}(h:gV a b):∀(i:Nat)(hi:i<b.length)(hi':i<a.length),kR a[i] b[i]:=by
 induction h with
 |nil=>intro i hi;simp at hi
 |cons x h ih=>intro i hi hi';cases i with
  |zero=>exact x
  |succ i=>exact ih i (by simpa using hi) (by simpa using hi')
theorem gV.agN{a b:List (List D)}(h:gV a b){n:Nat}{w:World}{σ:Nat->Nat}{v:Value}(hr:cu w σ (.ol n a) v):cu w σ (.ol n b) v:=by
 cases hr with
 |oU _ ad cap=>
  cases h;exact .oU n ad cap
 |ol _ b0 off cap aQ es vals c t hcap hlen hb hσ hfit hc hv vG=>
  have hl:=h.length;rw[hl] at hcap hfit hc ⊢
  have hlb:∀e∈b,e.length=aQ:=fun e he=>by
   obtain⟨i,hi,rfl⟩:=List.getElem_of_mem he;have h1:=h.at i hi (by omega);rw[<-h1.length];exact hlen _ (List.getElem_mem _)
  refine .ol n b0 off cap aQ b vals c t hcap hlb hb hσ hfit hc (fun j d hd=> ?_) vG;obtain⟨x,hx,hle⟩:=h.flat.at j d hd;exact hle w σ _ (hv j x hx)
theorem WZ{n:Nat}{a b:List (List D)}(h:gV a b):nC (.d (.ol n a)) (.d (.ol n b)):=fun w σ S β v hr=>h.agN hr
theorem acQ{n:Nat}{a b:List (List D)}(h:gV a b):Less (.c (.d (.ol n a))) (.c (.d (.ol n b))):=fun w σ S β v hr=>⟨h.agN hr.1,hr.2⟩
theorem Te{a b:List (List D)}(h:gV a b):nC (.d (.sl a)) (.d (.sl b)):=fun w σ S β v hr=>h.rep hr
theorem nC.trans{a b c:C}(h:nC a b)(k:nC b c):nC a c:=fun w σ S β v x=>k w σ S β v (h w σ S β v x)
end Go.Ab