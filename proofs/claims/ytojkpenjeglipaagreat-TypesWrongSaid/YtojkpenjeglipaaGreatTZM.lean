import Derived.Test.YtojkpenjeglipaaGreatTZS
import Derived.Test.YtojkpenjeglipaaGreatTAxRm
import Derived.KernelRfl
set_option linter.unusedSimpArgs false
set_option linter.unusedVariables false
namespace Go.Ax
noncomputable section
def Ci2 : List PV := [(.d (.str ⟨#[112, 114, 111, 99, 32, 112, 40, 41, 32, 123, 32, 102, 111, 114, 32, 114, 32, 105, 110, 32, 116, 32, 123, 32, 114, 101, 112, 108, 121, 32, 114, 46, 97, 59, 32, 125, 32, 125]⟩))]
def Ck0 : List Content := [(.box [(.ex [[(.str ⟨#[116]⟩), (.sl [[(.str ⟨#[97]⟩), (.int .i64 1)]]), (.sl [[(.sl [[(.int .i64 0)]]), (.bool true)]]), (.int .i64 5), (.int .i64 1), (.int .i64 0)]]), (.ex []), (.ex []), (.ex []), (.ex [])])]
def Ck1 : PV := (.tup [(.agg [(.d (.str ⟨#[112]⟩)), (.d (.str ⟨#[]⟩)), (.d (.str ⟨#[]⟩)), (.d (.int .i64 100)), (.d (.sl [])), (.d (.sl [[(.int .i64 6), (.str ⟨#[114]⟩), (.str ⟨#[116]⟩), (.int .i64 0), (.sl []), (.sl [[(.int .i64 3), (.int .i64 1), (.str ⟨#[]⟩), (.str ⟨#[]⟩), (.str ⟨#[]⟩), (.sl [])]]), (.sl [[(.int .i64 10), (.str ⟨#[]⟩), (.str ⟨#[]⟩), (.int .i64 0), (.sl []), (.sl [[(.int .i64 5), (.int .i64 0), (.str ⟨#[97]⟩), (.str ⟨#[114]⟩), (.str ⟨#[]⟩), (.sl [])]]), (.sl []), (.sl [])]]), (.sl [])]]))]), (.d (.int .i64 0)), (.d (.int .i64 0))])
def Cj1 : List Content := [(.box [(.ex [[(.str ⟨#[116]⟩), (.sl [[(.str ⟨#[97]⟩), (.int .i64 1)]]), (.sl [[(.sl [[(.int .i64 0)]]), (.bool true)]]), (.int .i64 5), (.int .i64 1), (.int .i64 0)]]), (.ex []), (.ex []), (.ex []), (.ex [])])]
set_option maxRecDepth 1000000 in
theorem Cl4 : Br4 TBL SS 10000 190 16 Ci2 Ck0 = some (Ck1, Cj1) := by kernel_rfl
def Ch9 : List PV := [(.d (.str ⟨#[112, 114, 111, 99, 32, 112, 40, 41, 32, 123, 32, 102, 111, 114, 32, 114, 32, 105, 110, 32, 116, 32, 123, 32, 114, 101, 112, 108, 121, 32, 114, 46, 98, 59, 32, 125, 32, 125]⟩))]
def Cj9 : List Content := [(.box [(.ex [[(.str ⟨#[116]⟩), (.sl [[(.str ⟨#[97]⟩), (.int .i64 1)]]), (.sl [[(.sl [[(.int .i64 0)]]), (.bool true)]]), (.int .i64 5), (.int .i64 1), (.int .i64 0)]]), (.ex []), (.ex []), (.ex []), (.ex [])]), (.box [(.d (.str ⟨#[112]⟩)), (.d (.str ⟨#[]⟩)), (.d (.str ⟨#[]⟩)), (.d (.int .i64 100)), (.d (.sl [])), (.d (.sl [[(.int .i64 6), (.str ⟨#[114]⟩), (.str ⟨#[116]⟩), (.int .i64 0), (.sl []), (.sl [[(.int .i64 3), (.int .i64 1), (.str ⟨#[]⟩), (.str ⟨#[]⟩), (.str ⟨#[]⟩), (.sl [])]]), (.sl [[(.int .i64 10), (.str ⟨#[]⟩), (.str ⟨#[]⟩), (.int .i64 0), (.sl []), (.sl [[(.int .i64 5), (.int .i64 0), (.str ⟨#[97]⟩), (.str ⟨#[114]⟩), (.str ⟨#[]⟩), (.sl [])]]), (.sl []), (.sl [])]]), (.sl [])]]))])]
def Ci6 : PV := (.tup [(.agg [(.d (.str ⟨#[112]⟩)), (.d (.str ⟨#[]⟩)), (.d (.str ⟨#[]⟩)), (.d (.int .i64 100)), (.d (.sl [])), (.d (.sl [[(.int .i64 6), (.str ⟨#[114]⟩), (.str ⟨#[116]⟩), (.int .i64 0), (.sl []), (.sl [[(.int .i64 3), (.int .i64 1), (.str ⟨#[]⟩), (.str ⟨#[]⟩), (.str ⟨#[]⟩), (.sl [])]]), (.sl [[(.int .i64 10), (.str ⟨#[]⟩), (.str ⟨#[]⟩), (.int .i64 0), (.sl []), (.sl [[(.int .i64 5), (.int .i64 0), (.str ⟨#[98]⟩), (.str ⟨#[114]⟩), (.str ⟨#[]⟩), (.sl [])]]), (.sl []), (.sl [])]]), (.sl [])]]))]), (.d (.int .i64 0)), (.d (.int .i64 0))])
def Cj6 : List Content := [(.box [(.ex [[(.str ⟨#[116]⟩), (.sl [[(.str ⟨#[97]⟩), (.int .i64 1)]]), (.sl [[(.sl [[(.int .i64 0)]]), (.bool true)]]), (.int .i64 5), (.int .i64 1), (.int .i64 0)]]), (.ex []), (.ex []), (.ex []), (.ex [])]), (.box [(.d (.str ⟨#[112]⟩)), (.d (.str ⟨#[]⟩)), (.d (.str ⟨#[]⟩)), (.d (.int .i64 100)), (.d (.sl [])), (.d (.sl [[(.int .i64 6), (.str ⟨#[114]⟩), (.str ⟨#[116]⟩), (.int .i64 0), (.sl []), (.sl [[(.int .i64 3), (.int .i64 1), (.str ⟨#[]⟩), (.str ⟨#[]⟩), (.str ⟨#[]⟩), (.sl [])]]), (.sl [[(.int .i64 10), (.str ⟨#[]⟩), (.str ⟨#[]⟩), (.int .i64 0), (.sl []), (.sl [[(.int .i64 5), (.int .i64 0), (.str ⟨#[97]⟩), (.str ⟨#[114]⟩), (.str ⟨#[]⟩), (.sl [])]]), (.sl []), (.sl [])]]), (.sl [])]]))])]
set_option maxRecDepth 1000000 in
theorem Cl9 : Br4 TBL SS 10000 190 16 Ch9 Cj9 = some (Ci6, Cj6) := by kernel_rfl
def ZML : List Memo := [⟨16, Ci2, Ck0, Ck1, Cj1⟩, ⟨16, Ch9, Cj9, Ci6, Cj6⟩]
theorem Ch4 : Bv8 PR ZML := ⟨AL4 BM2 BU8 190 _ _ _ _ _ Cl4, AL4 BM2 BU8 190 _ _ _ _ _ Cl9, trivial⟩
end
end Go.Ax
